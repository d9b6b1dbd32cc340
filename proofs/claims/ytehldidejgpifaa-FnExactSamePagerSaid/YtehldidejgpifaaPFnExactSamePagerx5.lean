/- Each Go function here comes to what the plain function of its name says, where that says something. Made by a program of this session, over the print. -/
import Derived.Test.YtehldidejgpifaaPFnExactSamePagerx0
import Derived.Test.YtehldidejgpifaaPFnExactSamePagerx2
import Derived.Test.YtehldidejgpifaaPFnExactSamePagerx3
import Derived.Test.YtehldidejgpifaaPFnExactSamePagerx4
namespace Go.Proofs.Ytehldidejgpifaa.PFnExactSamePager
open Go.RowKit Go.Proofs.YtehldidejgpifaaW.PrintWords Go.Proofs.YtehldidejgpifaaW.PrintLast
set_option linter.unusedVariables false
set_option linter.unusedSimpArgs false

attribute [local go_sem high] eqA119 eqA131
/-! ### laws_toPageS: function 96 -/
def laws_toPageS.l0 : Nat → List (S140) → List (S119) → Int → Option ((List (S119)))
 | 0, _, _, _ => none
 | k + 1, x0, x3, x4 => if x4 < (x0.length : Int) then (if 0 ≤ x4 then ((laws_toPage.f ((rd_T140 x0 x4).f0) ((rd_T140 x0 x4).f1)).bind fun bt149 => (if x4 < (x3.length : Int) then (laws_toPageS.l0 k x0 (x3.set (x4 : Int).toNat (⟨bt149.1, bt149.2⟩ : S119)) (wrap64 (x4 + 1))) else (none))) else (none)) else (some x3)
def laws_toPageS.f (k : Nat) (l0 : List (S140)) : Option ((List (S119))) := if 0 ≤ (l0.length : Int) then (if ((l0.length : Int) : Int).toNat ≤ 11728124029610 then (laws_toPageS.l0 k l0 (List.replicate ((l0.length : Int) : Int).toNat z119) 0) else (none)) else (none)
theorem laws_toPageS.mono_l : ∀ k, (∀ y0 y1 y2, LeO (laws_toPageS.l0 k y0 y1 y2) (laws_toPageS.l0 (k + 1) y0 y1 y2))
 | 0 => fun _ _ _ r h => by simp [laws_toPageS.l0] at h
 | k + 1 => by
  have ih0 := laws_toPageS.mono_l k
  ·
   intro y0 y1 y2
   unfold laws_toPageS.l0
   repeat' first
   | (with_reducible exact ih0 _ _ _)
   | (with_reducible exact LeO.refl _)
   | (with_reducible exact LeO.none _)
   | (with_reducible refine LeO.ite ?_ ?_)
   | (with_reducible refine LeO.bind ?_ (fun _ => ?_))
   | exact ih0 _ _ _
   | exact LeO.none _
   | refine LeO.ite ?_ ?_
   | refine LeO.bind ?_ (fun _ => ?_)
theorem laws_toPageS.mono : ∀ a0 k, LeO (laws_toPageS.f k a0) (laws_toPageS.f (k + 1) a0) := by
 intro a0 k
 have ih0 := laws_toPageS.mono_l k
 unfold laws_toPageS.f
 repeat' first
   | (with_reducible exact ih0 _ _ _)
   | (with_reducible exact LeO.refl _)
   | (with_reducible exact LeO.none _)
   | (with_reducible refine LeO.ite ?_ ?_)
   | (with_reducible refine LeO.bind ?_ (fun _ => ?_))
   | exact ih0 _ _ _
   | exact LeO.none _
   | refine LeO.ite ?_ ?_
   | refine LeO.bind ?_ (fun _ => ?_)
set_option maxHeartbeats 8000000 in
set_option maxRecDepth 100000 in
theorem laws_toPageS.calls (k : Nat) (A0 : Option Addr) (c0 : Nat) (l0 : List (S140)) (r : List (S119)) (w : World) (hr0 : Kd.C k140 w A0 l0.length l0) (hc0 : l0.length ≤ c0) (h : laws_toPageS.f k l0 = some r) :
  Calls Try.prog 96 #[.slice A0 l0.length c0] w fun e w' => ∃ v0_ : Value, e = .returned (v0_) ∧ Kd.R k119 119 w' w.heap.size (fun _ => True) v0_ r ∧ Below w.heap.size w w' := by
 have hu140 := Try.underlying140; have hu119 := Try.underlying119
 have HR0 := yD hr0
 have HC0 := yD hc0
 clear hr0 hc0
 have HB := yD (Below.refl w.heap.size w)
 have H : (if 0 ≤ (l0.length : Int) then (if ((l0.length : Int) : Int).toNat ≤ 11728124029610 then (laws_toPageS.l0 k l0 (List.replicate ((l0.length : Int) : Int).toNat z119) 0) else (none)) else (none)) = some r := h
 clear h
 by_cases c2 : 0 ≤ (l0.length : Int)
 ·
  rw [if_pos c2] at H
  have c2b0 := eq_true c2
  have c2b1 : decide (0 ≤ (l0.length : Int)) = true := zR c2; clear c2
  by_cases c3 : ((l0.length : Int) : Int).toNat ≤ 11728124029610
  ·
   rw [if_pos c3] at H
   have c3b0 := eq_true c3
   have c3b1 : decide (((l0.length : Int) : Int).toNat ≤ 11728124029610) = true := zR c3
   clear c3
   obtain ⟨y145, hy145⟩ : ∃ y_ : List (S119), y_ = (List.replicate ((l0.length : Int) : Int).toNat z119) := ⟨_, rfl⟩
   replace H : (laws_toPageS.l0 k l0 y145 0) = some r := by first | (rw [hy145]; with_reducible exact H) | (have H2_ := (Option.bind_some _ _).symm.trans H; rw [hy145]; with_reducible exact H2_) | (have H2_ := (Option.bind_some _ _).symm.trans H; with_reducible exact H2_) | with_reducible exact H | (rw [hy145]; exact H) | exact H
   have Ny145 := yD hy145
   clear hy145
   have H' := yD H
   clear H; go_enter Try.func96, Try.ntmps96
   go_wp2_with (first | ((with_reducible refine gate_dst (N := 7) rfl ?_); refine Kd.R_make k119 _ 119 rfl (N := 7) rfl 83 _ _ rfl (l0.length : Int) rfl rfl Try.underlying83 (.agg #[(.int .i64 0), (.string ⟨#[]⟩)]) 24 info119 rfl (by decide) (by omega) z119 (ok := fun _ => True) (okp := fun _ => True) (k119_mkM _ _ _ z119 ) (fun _ hk => hk) trivial (zP (by assumption)) (Nat.le_trans (Nat.mul_le_mul_right _ (zP (by assumption) : (l0.length : Int).toNat ≤ 11728124029610)) (by omega)) (Below.refl _ _) (Nat.le_refl _) ?_; intro v146 w4 ho5 hb hg_ hnew_; clear hg_ hnew_; (first | rw [← Ny145.out] at ho5 | (simp only [Int.reduceToNat] at ho5; rw [← Ny145.out] at ho5)); have n0_ := yD (yZ ho5 (below_size (by repeat (first | (with_reducible first | exact HB.out | apply yQ | apply yL | apply yP) | exact HB.out)))); have n1_ := yD (zC (by repeat (first | (with_reducible first | exact HB.out | apply yQ | apply yL | apply yP) | exact HB.out)) hb); clear HB; have HO147 := n0_; have HB := n1_; clear n0_ n1_; clear hb ho5))
   go_loopg [4] k (fun kq v4 w' => ∃ (x3_1 : List (S119)) (x4_1 : Int), v4 = .int .i64 x4_1 ∧ Aside0 (laws_toPageS.l0 kq l0 x3_1 x4_1 = some r) ∧ Aside0 (kq ≤ k) ∧ Aside0 (Kd.R k119 119 w' w.heap.size (fun _ => True) v146 x3_1) ∧ Aside0 (Below w.heap.size w w'))
   case atStart => exact ⟨(y145), (0), (by first | rfl | (simp; done) | (simp [*]; done)), H', ⟨Nat.le_refl _⟩, ⟨by (with_reducible repeat (first | apply yA | apply yB | apply yC)); exact HO147.out⟩, ⟨by repeat (first | (with_reducible first | exact HB.out | apply yQ | apply yL | apply yP) | exact HB.out)⟩⟩
   case round =>
    clear H'
    try clear c2; try clear c2b0; try clear c2b1; try clear p2; try clear c3; try clear c3b0; try clear c3b1
    obtain ⟨x3_1, x4_1, rfl, HA, HK1, HO_3, HB⟩ := hrel
    cases gk with
    | zero => exact absurd HA.out (by simp [laws_toPageS.l0])
    | succ k1 =>
     have H := HA.out; clear HA
     simp only [laws_toPageS.l0] at H
     by_cases c6 : x4_1 < (l0.length : Int)
     ·
      rw [if_pos c6] at H; have c6b0 : decide (x4_1 < (l0.length : Int)) = true := zR c6; clear c6
      by_cases c7 : 0 ≤ x4_1
      ·
       rw [if_pos c7] at H; have c7b0 : decide (0 ≤ x4_1) = true := zR c7; clear c7
       obtain ⟨⟨t149, t150⟩, A80, H⟩ := zW_ H
       replace H : (if x4_1 < (x3_1.length : Int) then (laws_toPageS.l0 k1 l0 (x3_1.set (x4_1 : Int).toNat (⟨t149, t150⟩ : S119)) (wrap64 (x4_1 + 1))) else (none)) = some r := H
       have A8 := yD A80
       clear A80
       by_cases c9 : x4_1 < (x3_1.length : Int)
       ·
        rw [if_pos c9] at H; have c9b0 : decide (x4_1 < (x3_1.length : Int)) = true := zR c9; clear c9
        obtain ⟨y151, hy151⟩ : ∃ y_ : List (S119), y_ = (x3_1.set (x4_1 : Int).toNat (⟨t149, t150⟩ : S119)) := ⟨_, rfl⟩
        replace H : (laws_toPageS.l0 k1 l0 y151 (wrap64 (x4_1 + 1))) = some r := by first | (rw [hy151]; with_reducible exact H) | (have H2_ := (Option.bind_some _ _).symm.trans H; rw [hy151]; with_reducible exact H2_) | (have H2_ := (Option.bind_some _ _).symm.trans H; with_reducible exact H2_) | with_reducible exact H | (rw [hy151]; exact H) | exact H
        have Ny151 := yD hy151
        clear hy151
        have H' := yD H
        clear H
        have p148 : 0 ≤ (x4_1 : Int) := zP (by assumption)
        have q148 : x4_1 < (l0.length : Int) := zP (by assumption)
        obtain ⟨ad148, e148, hx148_0, hx148_1⟩ := at_T140 HR0.out x4_1 p148 q148
        cases e148
        replace hx148_0 := (HB.out.cell (zQ w _ hx148_0)).trans hx148_0
        replace hx148_1 := (HB.out.cell (zQ w _ hx148_1)).trans hx148_1
        replace p148 := eq_true p148; replace q148 := eq_true q148
        go_wp2_with (first | ((with_reducible refine gate_callee (f := 120) rfl ?_); refine goesL_ (some 20) rfl rfl Try.func120 (by kernel_rfl) rfl #[.agg #[.int .i64 ((rd_T140 l0 x4_1).f0), .string ((rd_T140 l0 x4_1).f1)]] rfl (by (try simp only [zK, zL, zM]); first | done | rfl | (simp only [zN, zO]; rfl)) ?_; (with_reducible refine (laws_toPage.calls ((rd_T140 l0 x4_1).f0) ((rd_T140 l0 x4_1).f1) t149 t150 _ A8.out).mono ?_); rintro e w11 ⟨rfl, hb⟩; refine ⟨_, rfl, ?_⟩; have n0_ := yD (zE (by (with_reducible repeat (first | apply yA | apply yB | apply yC)); exact HO_3.out) hb); have n1_ := yD (zC (by repeat (first | (with_reducible first | exact HB.out | apply yQ | apply yL | apply yP) | exact HB.out)) hb); clear HO_3; clear HB; have HO_3 := n0_; have HB := n1_; clear n0_ n1_; (try clear hb); (try clear hb2); (try clear hk); (try clear hi); have p10 : 0 ≤ (x4_1 : Int) := zP (by assumption); have q10 : (x4_1 : Int) < ((x3_1.length : Int) : Int) := zP (by assumption); obtain ⟨go10, co10, eo10, gb10, gl10, cl10, HG10⟩ := Kd.R_form HO_3.out (by omega); (first | cases eo10 | (injection eo10 with ea_ en_ ec_; (first | subst ea_ | (injection ea_ with ea_; subst ea_)); subst ec_; clear en_)); have GB10 := yD gb10; have GG10 := yD HG10; clear gb10 gl10 HG10; obtain ⟨ce10, hcl10, hM10, hcc10, hfr10⟩ := Kd.R_elem HO_3.out z119 (x4_1 : Int) p10 q10; obtain rfl := k119_openM hM10; have hx10_0 : w11.cell? ⟨go10, (x4_1 : Int).toNat * 2, none⟩ = some (.int .i64 ((rd_T119 x3_1 x4_1).f0)) := hcc10 0 _ rfl; have hx10_1 : w11.cell? ⟨go10, (x4_1 : Int).toNat * 2 + 1, none⟩ = some (.string ((rd_T119 x3_1 x4_1).f1)) := hcc10 1 _ rfl; have hf10_0 : w11.frozen? ⟨go10, (x4_1 : Int).toNat * 2, none⟩ = false := hfr10 0; have hf10_1 : w11.frozen? ⟨go10, (x4_1 : Int).toNat * 2 + 1, none⟩ = false := hfr10 1; clear hcl10 hcc10 hfr10 hM10; replace p10 := eq_true p10; replace q10 := eq_true q10; have HX12 := yD (show Kd.R k119 119 w11 w.heap.size (fun _ => True) (.slice (some ⟨go10, 0, none⟩) x3_1.length co10) x3_1 from (by (with_reducible repeat (first | apply yA | apply yB | apply yC)); exact HO_3.out)); obtain ⟨ce12, hcl12, hM12, hcc12, hfr12⟩ := Kd.R_elem HX12.out z119 (x4_1 : Int) (zP (by assumption)) (by have h_ : (x4_1 : Int) < ((x3_1.length : Int) : Int) := zP (by assumption); first | exact h_ | (have e_ := (zA HO_3.out).1; omega) | simpa using h_); obtain rfl := k119_openM hM12; have HP12 := Kd.R_seg HX12.out (x4_1 : Int) (zP (by assumption)) (by have h_ : (x4_1 : Int) < ((x3_1.length : Int) : Int) := zP (by assumption); first | exact h_ | (have e_ := (zA HO_3.out).1; omega) | simpa using h_) (seg := [.int .i64 t149, .string t150]) (j := 0) hcl12 hcc12 (show 2 ≤ 2 from by decide) (x' := (⟨t149, t150⟩ : S119)) (k119_mkM _ _ _ (⟨t149, t150⟩ : S119) ) (fun _ hk => hk); have hx12_0 := hcc12 0 _ rfl; (try simp only [show (k119).sz = 2 from rfl, Nat.mul_one, Nat.add_zero] at hx12_0); have hf12_0 := hfr12 0; (try simp only [show (k119).sz = 2 from rfl, Nat.mul_one, Nat.add_zero] at hf12_0); have hx12_1 := hcc12 1 _ rfl; (try simp only [show (k119).sz = 2 from rfl, Nat.mul_one, Nat.add_zero] at hx12_1); have hf12_1 := hfr12 1; (try simp only [show (k119).sz = 2 from rfl, Nat.mul_one, Nat.add_zero] at hf12_1); clear hcl12 hcc12 hfr12 hM12) | ((with_reducible refine gate_store (t := 119) (p := 21) rfl ?_); refine store_event (t := 119) (p := 21) (v := ?vo_w13) (w1 := ((w11.setCell ⟨go10, (x4_1 : Int).toNat * 2, none⟩ (.int .i64 t149)).setCell ⟨go10, (x4_1 : Int).toNat * 2 + 1, none⟩ (.string t150))) ?hg ?ho ?hn ?hr ?_; (case ho => rfl); (case hg => rfl); (case hn => rfl); (case hr => first | (go_simp; done) | (go_simp; rfl)); intro w13 hw; have hg : w11.grownBy w13 (some go10) := (by rw [hw]; exact HP12.2); have hp_ : Kd.R k119 119 w13 w.heap.size (fun _ => True) (.slice (some ⟨go10, 0, none⟩) x3_1.length co10) y151 := (by rw [hw, Ny151.out]; exact HP12.1); clear HP12; have n0_ := yD (hp_); have n1_ := yD ((by rw [hw]; exact yE (yE (HB.out) GB10.out) GB10.out : Below w.heap.size w w13)); clear HO_3; clear HB; have HO_3 := n0_; have HB := n1_; clear n0_ n1_; clear hg hw hp_))
        go_roundg k1
        case measure => have := HK1.out; omega
        case rel => exact ⟨(y151), (wrap64 (x4_1 + 1)), (by first | rfl | (simp; done) | (simp [*]; done)), H', ⟨by have := HK1.out; omega⟩, ⟨by (with_reducible repeat (first | apply yA | apply yB | apply yC)); exact HO_3.out⟩, ⟨by repeat (first | (with_reducible first | exact HB.out | apply yQ | apply yL | apply yP) | exact HB.out)⟩⟩
       ·
        rw [if_neg c9] at H
        exact absurd H (by simp)
      ·
       rw [if_neg c7] at H
       exact absurd H (by simp)
     ·
      rw [if_neg c6] at H; have c6b0 : decide (x4_1 < (l0.length : Int)) = false := zS c6; clear c6; obtain rfl := Option.some.inj H
      go_wp2
      go_ret
      exact ⟨_, by first | rfl | (simp <;> rfl) | (simp [*] <;> rfl), by (with_reducible repeat (first | apply yA | apply yB | apply yC)); exact HO_3.out, by repeat (first | (with_reducible first | exact HB.out | apply yQ | apply yL | apply yP) | exact HB.out)⟩
  ·
   rw [if_neg c3] at H
   exact absurd H (by simp)
 ·
  rw [if_neg c2] at H
  exact absurd H (by simp)

/-! ### laws_toPager: function 49 -/
def laws_toPager.f (k : Nat) (l0_0 : List ByteArray) (l0_1 : List (S166)) (a0_2 : Int) (a0_3 : Bool) (a0_4 : Int) (a0_5 : Int) (a0_6 : Int) (a0_7 : Int) (a0_8 : Int) (a0_9 : Int) (l0_10 : List (S140)) (l0_11 : List (S140)) : Option (List ByteArray × (List (S131)) × Int × Bool × Int × Int × Int × Int × Int × Int × (List (S119)) × (List (S119))) := (laws_toDisk.f k l0_0 l0_1 a0_2 a0_3).bind fun bt155 => ((laws_toSuper.f a0_4 a0_5 a0_6 a0_7).bind fun bt163 => ((laws_toPageS.f k l0_10).bind fun t167 => ((laws_toPageS.f k l0_11).bind fun t170 => (some (bt155.1, bt155.2.1, bt155.2.2.1, bt155.2.2.2, bt163.1, bt163.2.1, bt163.2.2.1, bt163.2.2.2, a0_8, a0_9, t167, t170)))))
theorem laws_toPager.mono : ∀ a0 a1 a2 a3 a4 a5 a6 a7 a8 a9 a10 a11 k, LeO (laws_toPager.f k a0 a1 a2 a3 a4 a5 a6 a7 a8 a9 a10 a11) (laws_toPager.f (k + 1) a0 a1 a2 a3 a4 a5 a6 a7 a8 a9 a10 a11) := by
 intro a0 a1 a2 a3 a4 a5 a6 a7 a8 a9 a10 a11 k
 unfold laws_toPager.f
 repeat' first
   | (with_reducible exact laws_toDisk.mono _ _ _ _ _)
   | (with_reducible exact laws_toPageS.mono _ _)
   | (with_reducible exact LeO.refl _)
   | (with_reducible exact LeO.none _)
   | (with_reducible refine LeO.ite ?_ ?_)
   | (with_reducible refine LeO.bind ?_ (fun _ => ?_))
   | exact laws_toDisk.mono _ _ _ _ _
   | exact laws_toPageS.mono _ _
   | exact LeO.none _
   | refine LeO.ite ?_ ?_
   | refine LeO.bind ?_ (fun _ => ?_)
set_option maxHeartbeats 8000000 in
set_option maxRecDepth 100000 in
theorem laws_toPager.calls (k : Nat) (A0_0 : Option Addr) (c0_0 : Nat) (l0_0 : List ByteArray) (A0_1 : Option Addr) (c0_1 : Nat) (l0_1 : List (S166)) (a0_2 : Int) (a0_3 : Bool) (a0_4 : Int) (a0_5 : Int) (a0_6 : Int) (a0_7 : Int) (a0_8 : Int) (a0_9 : Int) (A0_10 : Option Addr) (c0_10 : Nat) (l0_10 : List (S140)) (A0_11 : Option Addr) (c0_11 : Nat) (l0_11 : List (S140)) (r1 : List ByteArray) (r2 : List (S131)) (r3 : Int) (r4 : Bool) (r5 : Int) (r6 : Int) (r7 : Int) (r8 : Int) (r9 : Int) (r10 : Int) (r11 : List (S119)) (r12 : List (S119)) (w : World) (hr0_0 : Kd.C Kd.string w A0_0 l0_0.length l0_0) (hc0_0 : l0_0.length ≤ c0_0) (hr0_1 : Kd.C k166 w A0_1 l0_1.length l0_1) (hc0_1 : l0_1.length ≤ c0_1) (hr0_10 : Kd.C k140 w A0_10 l0_10.length l0_10) (hc0_10 : l0_10.length ≤ c0_10) (hr0_11 : Kd.C k140 w A0_11 l0_11.length l0_11) (hc0_11 : l0_11.length ≤ c0_11) (h : laws_toPager.f k l0_0 l0_1 a0_2 a0_3 a0_4 a0_5 a0_6 a0_7 a0_8 a0_9 l0_10 l0_11 = some (r1, r2, r3, r4, r5, r6, r7, r8, r9, r10, r11, r12)) :
  Calls Try.prog 49 #[.agg #[.slice A0_0 l0_0.length c0_0, .slice A0_1 l0_1.length c0_1, .int .i64 a0_2, .bool a0_3, .int .i64 a0_4, .int .i64 a0_5, .int .i64 a0_6, .int .i64 a0_7, .int .i64 a0_8, .int .i64 a0_9, .slice A0_10 l0_10.length c0_10, .slice A0_11 l0_11.length c0_11]] w fun e w' => ∃ v0_ v1_ v10_ v11_ : Value, e = .returned (.agg #[v0_, v1_, .int .i64 r3, .bool r4, .int .i64 r5, .int .i64 r6, .int .i64 r7, .int .i64 r8, .int .i64 r9, .int .i64 r10, v10_, v11_]) ∧ Kd.R Kd.string 9 w' w.heap.size (fun _ => True) v0_ r1 ∧ Kd.R k131 131 w' w.heap.size (fun _ => True) v1_ r2 ∧ Kd.R k119 119 w' w.heap.size (fun k_ => some k_ ≠ (v11_ : Value).ownBlock) v10_ r11 ∧ Kd.R k119 119 w' w.heap.size (fun k_ => some k_ ≠ (v10_ : Value).ownBlock) v11_ r12 ∧ Below w.heap.size w w' := by
 have hu79 := Try.underlying79; have hu85 := Try.underlying85; have hu74 := Try.underlying74; have hu36 := Try.underlying36; have hu76 := Try.underlying76; have hu82 := Try.underlying82
 have HR0_0 := yD hr0_0
 have HC0_0 := yD hc0_0
 clear hr0_0 hc0_0
 have HR0_1 := yD hr0_1
 have HC0_1 := yD hc0_1
 clear hr0_1 hc0_1
 have HR0_10 := yD hr0_10
 have HC0_10 := yD hc0_10
 clear hr0_10 hc0_10
 have HR0_11 := yD hr0_11
 have HC0_11 := yD hc0_11
 clear hr0_11 hc0_11
 have HB := yD (Below.refl w.heap.size w)
 have H : ((laws_toDisk.f k l0_0 l0_1 a0_2 a0_3).bind fun bt155 => ((laws_toSuper.f a0_4 a0_5 a0_6 a0_7).bind fun bt163 => ((laws_toPageS.f k l0_10).bind fun t167 => ((laws_toPageS.f k l0_11).bind fun t170 => (some (bt155.1, bt155.2.1, bt155.2.2.1, bt155.2.2.2, bt163.1, bt163.2.1, bt163.2.2.1, bt163.2.2.2, a0_8, a0_9, t167, t170)))))) = some (r1, r2, r3, r4, r5, r6, r7, r8, r9, r10, r11, r12) := h
 clear h
 obtain ⟨⟨t155, t158, t161, t162⟩, A20, H⟩ := zW_ H
 replace H : ((laws_toSuper.f a0_4 a0_5 a0_6 a0_7).bind fun bt163 => ((laws_toPageS.f k l0_10).bind fun t167 => ((laws_toPageS.f k l0_11).bind fun t170 => (some (t155, t158, t161, t162, bt163.1, bt163.2.1, bt163.2.2.1, bt163.2.2.2, a0_8, a0_9, t167, t170))))) = some (r1, r2, r3, r4, r5, r6, r7, r8, r9, r10, r11, r12) := H
 have A2 := yD A20
 clear A20
 obtain ⟨⟨t163, t164, t165, t166⟩, A30, H⟩ := zW_ H
 replace H : ((laws_toPageS.f k l0_10).bind fun t167 => ((laws_toPageS.f k l0_11).bind fun t170 => (some (t155, t158, t161, t162, t163, t164, t165, t166, a0_8, a0_9, t167, t170)))) = some (r1, r2, r3, r4, r5, r6, r7, r8, r9, r10, r11, r12) := H
 have A3 := yD A30
 clear A30
 obtain ⟨t167, A40, H⟩ := zW_ H
 replace H : ((laws_toPageS.f k l0_11).bind fun t170 => (some (t155, t158, t161, t162, t163, t164, t165, t166, a0_8, a0_9, t167, t170))) = some (r1, r2, r3, r4, r5, r6, r7, r8, r9, r10, r11, r12) := H
 have A4 := yD A40
 clear A40
 obtain ⟨t170, A50, H⟩ := zW_ H
 replace H : (some (t155, t158, t161, t162, t163, t164, t165, t166, a0_8, a0_9, t167, t170)) = some (r1, r2, r3, r4, r5, r6, r7, r8, r9, r10, r11, r12) := H
 have A5 := yD A50
 clear A50
 simp only [Option.some.injEq, Prod.mk.injEq] at H
 obtain ⟨rfl, rfl, rfl, rfl, rfl, rfl, rfl, rfl, rfl, rfl, rfl, rfl⟩ := H
 go_enter Try.func49, Try.ntmps49
 go_wp2_with (first | ((with_reducible refine gate_dst (N := 1) rfl ?_); refine box_event ?hg (N := 1) ?hd (cs := #[.slice A0_0 l0_0.length c0_0, .slice A0_1 l0_1.length c0_1, .int .i64 a0_2, .bool a0_3, .int .i64 a0_4, .int .i64 a0_5, .int .i64 a0_6, .int .i64 a0_7, .int .i64 a0_8, .int .i64 a0_9, .slice A0_10 l0_10.length c0_10, .slice A0_11 l0_11.length c0_11]) (t := 79) ?hr ?_; (case hd => rfl); (case hg => rfl); (case hr => first | (go_simp; done) | (go_simp; rfl)); intro gb152 hg w6 hbox hb; have n0_ := yD (zC (by repeat (first | (with_reducible first | exact HB.out | apply yQ | apply yL | apply yP) | exact HB.out)) hb); have n1_ := yD (hbox); have n2_ := yD ((by rw [hg]; exact (below_size (by repeat (first | (with_reducible first | exact HB.out | apply yQ | apply yL | apply yP) | exact HB.out))) : w.heap.size ≤ gb152)); have n3_ := yD ((by rw [hg]; exact (below_size (by repeat (first | (with_reducible first | exact HB.out | apply yQ | apply yL | apply yP) | exact HB.out))) : w.heap.size ≤ gb152)); clear HB; have HB := n0_; have BK152 := n1_; have GW152 := n2_; have GE152 := n3_; clear n0_ n1_ n2_ n3_; clear hb hbox hg) | ((with_reducible refine gate_dst (N := 2) rfl ?_); refine box_event ?hg (N := 2) ?hd (cs := #[.slice none 0 0, .slice none 0 0, .int .i64 0, .bool false, .int .i64 0, .int .i64 0, .int .i64 0, .int .i64 0, .int .i64 0, .int .i64 0, .slice none 0 0, .slice none 0 0]) (t := 85) ?hr ?_; (case hd => rfl); (case hg => rfl); (case hr => first | (go_simp; done) | (go_simp; rfl)); intro gb153 hg w7 hbox hb; have n0_ := yD (zB (g := gb152) (o := .cells #[.slice A0_0 l0_0.length c0_0, .slice A0_1 l0_1.length c0_1, .int .i64 a0_2, .bool a0_3, .int .i64 a0_4, .int .i64 a0_5, .int .i64 a0_6, .int .i64 a0_7, .int .i64 a0_8, .int .i64 a0_9, .slice A0_10 l0_10.length c0_10, .slice A0_11 l0_11.length c0_11] 79 (0, 0)) (by (with_reducible repeat (first | refine yM ?_ _ | refine yO ?_ | refine yN ?_ _)); exact BK152.out) hb); have n1_ := yD (zC (by repeat (first | (with_reducible first | exact HB.out | apply yQ | apply yL | apply yP | refine yE ?_ GE152.out) | exact HB.out)) hb); have n2_ := yD (hbox); have n3_ := yD ((by rw [hg]; exact (below_size (by repeat (first | (with_reducible first | exact HB.out | apply yQ | apply yL | apply yP | refine yE ?_ GE152.out) | exact HB.out))) : w.heap.size ≤ gb153)); have n4_ := yD ((by rw [hg]; exact (below_size (by repeat (first | (with_reducible first | exact HB.out | apply yQ | apply yL | apply yP | refine yE ?_ GE152.out) | exact HB.out))) : w.heap.size ≤ gb153)); have n5_ := yD ((by rw [hg]; exact Nat.ne_of_lt (blk_lt (g := gb152) (o := .cells #[.slice A0_0 l0_0.length c0_0, .slice A0_1 l0_1.length c0_1, .int .i64 a0_2, .bool a0_3, .int .i64 a0_4, .int .i64 a0_5, .int .i64 a0_6, .int .i64 a0_7, .int .i64 a0_8, .int .i64 a0_9, .slice A0_10 l0_10.length c0_10, .slice A0_11 l0_11.length c0_11] 79 (0, 0)) (by (with_reducible repeat (first | refine yM ?_ _ | refine yO ?_ | refine yN ?_ _)); exact BK152.out)) : gb152 ≠ gb153)); have n6_ := yD ((by rw [hg]; exact Nat.ne_of_gt (blk_lt (g := gb152) (o := .cells #[.slice A0_0 l0_0.length c0_0, .slice A0_1 l0_1.length c0_1, .int .i64 a0_2, .bool a0_3, .int .i64 a0_4, .int .i64 a0_5, .int .i64 a0_6, .int .i64 a0_7, .int .i64 a0_8, .int .i64 a0_9, .slice A0_10 l0_10.length c0_10, .slice A0_11 l0_11.length c0_11] 79 (0, 0)) (by (with_reducible repeat (first | refine yM ?_ _ | refine yO ?_ | refine yN ?_ _)); exact BK152.out)) : gb153 ≠ gb152)); clear BK152; clear HB; have BK152 := n0_; have HB := n1_; have BK153 := n2_; have GW153 := n3_; have GE153 := n4_; have NB152_153 := n5_; have NB153_152 := n6_; clear n0_ n1_ n2_ n3_ n4_ n5_ n6_; clear hb hbox hg) | ((with_reducible refine gate_dst (N := 3) rfl ?_); refine box_event ?hg (N := 3) ?hd (cs := #[.slice none 0 0, .slice none 0 0, .int .i64 0, .bool false, .int .i64 0, .int .i64 0, .int .i64 0, .int .i64 0, .int .i64 0, .int .i64 0, .slice none 0 0, .slice none 0 0]) (t := 85) ?hr ?_; (case hd => rfl); (case hg => rfl); (case hr => first | (go_simp; done) | (go_simp; rfl)); intro gb154 hg w8 hbox hb; have n0_ := yD (zB (g := gb152) (o := .cells #[.slice A0_0 l0_0.length c0_0, .slice A0_1 l0_1.length c0_1, .int .i64 a0_2, .bool a0_3, .int .i64 a0_4, .int .i64 a0_5, .int .i64 a0_6, .int .i64 a0_7, .int .i64 a0_8, .int .i64 a0_9, .slice A0_10 l0_10.length c0_10, .slice A0_11 l0_11.length c0_11] 79 (0, 0)) (by (with_reducible repeat (first | refine yM ?_ _ | refine yO ?_ | refine yN ?_ _)); exact BK152.out) hb); have n1_ := yD (zB (g := gb153) (o := .cells #[.slice none 0 0, .slice none 0 0, .int .i64 0, .bool false, .int .i64 0, .int .i64 0, .int .i64 0, .int .i64 0, .int .i64 0, .int .i64 0, .slice none 0 0, .slice none 0 0] 85 (0, 0)) (by (with_reducible repeat (first | refine yM ?_ _ | refine yO ?_ | refine yN ?_ _)); exact BK153.out) hb); have n2_ := yD (zC (by repeat (first | (with_reducible first | exact HB.out | apply yQ | apply yL | apply yP | refine yE ?_ GE152.out | refine yE ?_ GE153.out) | exact HB.out)) hb); have n3_ := yD (hbox); have n4_ := yD ((by rw [hg]; exact (below_size (by repeat (first | (with_reducible first | exact HB.out | apply yQ | apply yL | apply yP | refine yE ?_ GE152.out | refine yE ?_ GE153.out) | exact HB.out))) : w.heap.size ≤ gb154)); have n5_ := yD ((by rw [hg]; exact (below_size (by repeat (first | (with_reducible first | exact HB.out | apply yQ | apply yL | apply yP | refine yE ?_ GE152.out | refine yE ?_ GE153.out) | exact HB.out))) : w.heap.size ≤ gb154)); have n6_ := yD ((by rw [hg]; exact Nat.ne_of_lt (blk_lt (g := gb152) (o := .cells #[.slice A0_0 l0_0.length c0_0, .slice A0_1 l0_1.length c0_1, .int .i64 a0_2, .bool a0_3, .int .i64 a0_4, .int .i64 a0_5, .int .i64 a0_6, .int .i64 a0_7, .int .i64 a0_8, .int .i64 a0_9, .slice A0_10 l0_10.length c0_10, .slice A0_11 l0_11.length c0_11] 79 (0, 0)) (by (with_reducible repeat (first | refine yM ?_ _ | refine yO ?_ | refine yN ?_ _)); exact BK152.out)) : gb152 ≠ gb154)); have n7_ := yD ((by rw [hg]; exact Nat.ne_of_gt (blk_lt (g := gb152) (o := .cells #[.slice A0_0 l0_0.length c0_0, .slice A0_1 l0_1.length c0_1, .int .i64 a0_2, .bool a0_3, .int .i64 a0_4, .int .i64 a0_5, .int .i64 a0_6, .int .i64 a0_7, .int .i64 a0_8, .int .i64 a0_9, .slice A0_10 l0_10.length c0_10, .slice A0_11 l0_11.length c0_11] 79 (0, 0)) (by (with_reducible repeat (first | refine yM ?_ _ | refine yO ?_ | refine yN ?_ _)); exact BK152.out)) : gb154 ≠ gb152)); have n8_ := yD ((by rw [hg]; exact Nat.ne_of_lt (blk_lt (g := gb153) (o := .cells #[.slice none 0 0, .slice none 0 0, .int .i64 0, .bool false, .int .i64 0, .int .i64 0, .int .i64 0, .int .i64 0, .int .i64 0, .int .i64 0, .slice none 0 0, .slice none 0 0] 85 (0, 0)) (by (with_reducible repeat (first | refine yM ?_ _ | refine yO ?_ | refine yN ?_ _)); exact BK153.out)) : gb153 ≠ gb154)); have n9_ := yD ((by rw [hg]; exact Nat.ne_of_gt (blk_lt (g := gb153) (o := .cells #[.slice none 0 0, .slice none 0 0, .int .i64 0, .bool false, .int .i64 0, .int .i64 0, .int .i64 0, .int .i64 0, .int .i64 0, .int .i64 0, .slice none 0 0, .slice none 0 0] 85 (0, 0)) (by (with_reducible repeat (first | refine yM ?_ _ | refine yO ?_ | refine yN ?_ _)); exact BK153.out)) : gb154 ≠ gb153)); clear BK152; clear BK153; clear HB; have BK152 := n0_; have BK153 := n1_; have HB := n2_; have BK154 := n3_; have GW154 := n4_; have GE154 := n5_; have NB152_154 := n6_; have NB154_152 := n7_; have NB153_154 := n8_; have NB154_153 := n9_; clear n0_ n1_ n2_ n3_ n4_ n5_ n6_ n7_ n8_ n9_; clear hb hbox hg; have hnb9 := NB152_153.out; have hnc9 := NB153_152.out; have hnb10 := NB152_154.out; have hnc10 := NB154_152.out; have hcz11_0 : w8.cell? ⟨gb152, 0, none⟩ = some (.slice A0_0 l0_0.length c0_0) := (yG BK152.out 0).trans rfl; have hcz11_1 : w8.cell? ⟨gb152, 1, none⟩ = some (.slice A0_1 l0_1.length c0_1) := (yG BK152.out 1).trans rfl; have hcz11_2 : w8.cell? ⟨gb152, 2, none⟩ = some (.int .i64 a0_2) := (yG BK152.out 2).trans rfl; have hcz11_3 : w8.cell? ⟨gb152, 3, none⟩ = some (.bool a0_3) := (yG BK152.out 3).trans rfl; have hcz11_4 : w8.cell? ⟨gb152, 4, none⟩ = some (.int .i64 a0_4) := (yG BK152.out 4).trans rfl; have hcz11_5 : w8.cell? ⟨gb152, 5, none⟩ = some (.int .i64 a0_5) := (yG BK152.out 5).trans rfl; have hcz11_6 : w8.cell? ⟨gb152, 6, none⟩ = some (.int .i64 a0_6) := (yG BK152.out 6).trans rfl; have hcz11_7 : w8.cell? ⟨gb152, 7, none⟩ = some (.int .i64 a0_7) := (yG BK152.out 7).trans rfl; have hcz11_8 : w8.cell? ⟨gb152, 8, none⟩ = some (.int .i64 a0_8) := (yG BK152.out 8).trans rfl; have hcz11_9 : w8.cell? ⟨gb152, 9, none⟩ = some (.int .i64 a0_9) := (yG BK152.out 9).trans rfl; have hcz11_10 : w8.cell? ⟨gb152, 10, none⟩ = some (.slice A0_10 l0_10.length c0_10) := (yG BK152.out 10).trans rfl; have hcz11_11 : w8.cell? ⟨gb152, 11, none⟩ = some (.slice A0_11 l0_11.length c0_11) := (yG BK152.out 11).trans rfl; have hfz11_0 := yR BK152.out 0; have hfz11_1 := yR BK152.out 1; have hfz11_2 := yR BK152.out 2; have hfz11_3 := yR BK152.out 3; have hfz11_4 := yR BK152.out 4; have hfz11_5 := yR BK152.out 5; have hfz11_6 := yR BK152.out 6; have hfz11_7 := yR BK152.out 7; have hfz11_8 := yR BK152.out 8; have hfz11_9 := yR BK152.out 9; have hfz11_10 := yR BK152.out 10; have hfz11_11 := yR BK152.out 11) | ((with_reducible refine gate_callee (f := 94) rfl ?_); refine goesL_ (some 6) rfl rfl Try.func94 (by kernel_rfl) rfl #[.agg #[.slice A0_0 l0_0.length c0_0, .slice A0_1 l0_1.length c0_1, .int .i64 a0_2, .bool a0_3]] rfl (by (try simp only [zK, zL, zM]); first | done | rfl | (simp only [zN, zO]; rfl)) ?_; (with_reducible refine (laws_toDisk.calls k _ _ l0_0 _ _ l0_1 a0_2 a0_3 t155 t158 t161 t162 _ ?side1 ?side2 ?side3 ?side4 A2.out).mono ?_); (case side1 => repeat (first | exact (yY HR0_0.out HB.out) | (with_reducible first | refine yV ?_ _ | refine yW ?_ _ | refine yX ?_))); (case side2 => exact HC0_0.out); (case side3 => repeat (first | exact (yY HR0_1.out HB.out) | (with_reducible first | refine yV ?_ _ | refine yW ?_ _ | refine yX ?_))); (case side4 => exact HC0_1.out); rintro e w12 ⟨v156, v159, rfl, ho0, ho1, hb⟩; refine ⟨_, rfl, ?_⟩; have n0_ := yD (yZ ho0 (below_size (by repeat (first | (with_reducible first | exact HB.out | apply yQ | apply yL | apply yP | refine yE ?_ GE152.out | refine yE ?_ GE153.out | refine yE ?_ GE154.out) | exact HB.out)))); have n1_ := yD (yZ ho1 (below_size (by repeat (first | (with_reducible first | exact HB.out | apply yQ | apply yL | apply yP | refine yE ?_ GE152.out | refine yE ?_ GE153.out | refine yE ?_ GE154.out) | exact HB.out)))); have n2_ := yD (zB (g := gb152) (o := .cells #[.slice A0_0 l0_0.length c0_0, .slice A0_1 l0_1.length c0_1, .int .i64 a0_2, .bool a0_3, .int .i64 a0_4, .int .i64 a0_5, .int .i64 a0_6, .int .i64 a0_7, .int .i64 a0_8, .int .i64 a0_9, .slice A0_10 l0_10.length c0_10, .slice A0_11 l0_11.length c0_11] 79 (0, 0)) (by (with_reducible repeat (first | refine yM ?_ _ | refine yO ?_ | refine yN ?_ _)); exact BK152.out) hb); have n3_ := yD (zB (g := gb153) (o := .cells #[.slice none 0 0, .slice none 0 0, .int .i64 0, .bool false, .int .i64 0, .int .i64 0, .int .i64 0, .int .i64 0, .int .i64 0, .int .i64 0, .slice none 0 0, .slice none 0 0] 85 (0, 0)) (by (with_reducible repeat (first | refine yM ?_ _ | refine yO ?_ | refine yN ?_ _)); exact BK153.out) hb); have n4_ := yD (zB (g := gb154) (o := .cells #[.slice none 0 0, .slice none 0 0, .int .i64 0, .bool false, .int .i64 0, .int .i64 0, .int .i64 0, .int .i64 0, .int .i64 0, .int .i64 0, .slice none 0 0, .slice none 0 0] 85 (0, 0)) (by (with_reducible repeat (first | refine yM ?_ _ | refine yO ?_ | refine yN ?_ _)); exact BK154.out) hb); have n5_ := yD (zC (by repeat (first | (with_reducible first | exact HB.out | apply yQ | apply yL | apply yP | refine yE ?_ GE152.out | refine yE ?_ GE153.out | refine yE ?_ GE154.out) | exact HB.out)) hb); clear BK152; clear BK153; clear BK154; clear HB; have HO157 := n0_; have HO160 := n1_; have BK152 := n2_; have BK153 := n3_; have BK154 := n4_; have HB := n5_; clear n0_ n1_ n2_ n3_ n4_ n5_; (try clear hb); (try clear hb2); (try clear hk); (try clear hi); (try clear ho0); (try clear ho1); obtain ⟨Ao13, co13, eo13⟩ := Kd.R_slice HO157.out; subst eo13; have hnb14 := NB154_153.out; have hnc14 := NB153_154.out; have hcz15_0 : w12.cell? ⟨gb154, 0, none⟩ = some (.slice none 0 0) := (yG BK154.out 0).trans rfl; have hcz15_1 : w12.cell? ⟨gb154, 1, none⟩ = some (.slice none 0 0) := (yG BK154.out 1).trans rfl; have hcz15_2 : w12.cell? ⟨gb154, 2, none⟩ = some (.int .i64 0) := (yG BK154.out 2).trans rfl; have hcz15_3 : w12.cell? ⟨gb154, 3, none⟩ = some (.bool false) := (yG BK154.out 3).trans rfl; have hcz15_4 : w12.cell? ⟨gb154, 4, none⟩ = some (.int .i64 0) := (yG BK154.out 4).trans rfl; have hcz15_5 : w12.cell? ⟨gb154, 5, none⟩ = some (.int .i64 0) := (yG BK154.out 5).trans rfl; have hcz15_6 : w12.cell? ⟨gb154, 6, none⟩ = some (.int .i64 0) := (yG BK154.out 6).trans rfl; have hcz15_7 : w12.cell? ⟨gb154, 7, none⟩ = some (.int .i64 0) := (yG BK154.out 7).trans rfl; have hcz15_8 : w12.cell? ⟨gb154, 8, none⟩ = some (.int .i64 0) := (yG BK154.out 8).trans rfl; have hcz15_9 : w12.cell? ⟨gb154, 9, none⟩ = some (.int .i64 0) := (yG BK154.out 9).trans rfl; have hcz15_10 : w12.cell? ⟨gb154, 10, none⟩ = some (.slice none 0 0) := (yG BK154.out 10).trans rfl; have hcz15_11 : w12.cell? ⟨gb154, 11, none⟩ = some (.slice none 0 0) := (yG BK154.out 11).trans rfl; have hfz15_0 := yR BK154.out 0; have hfz15_1 := yR BK154.out 1; have hfz15_2 := yR BK154.out 2; have hfz15_3 := yR BK154.out 3; have hfz15_4 := yR BK154.out 4; have hfz15_5 := yR BK154.out 5; have hfz15_6 := yR BK154.out 6; have hfz15_7 := yR BK154.out 7; have hfz15_8 := yR BK154.out 8; have hfz15_9 := yR BK154.out 9; have hfz15_10 := yR BK154.out 10; have hfz15_11 := yR BK154.out 11; obtain ⟨Ao16, co16, eo16⟩ := Kd.R_slice HO160.out; subst eo16; have hcz17_0 : w12.cell? ⟨gb152, 0, none⟩ = some (.slice A0_0 l0_0.length c0_0) := (yG BK152.out 0).trans rfl; have hcz17_1 : w12.cell? ⟨gb152, 1, none⟩ = some (.slice A0_1 l0_1.length c0_1) := (yG BK152.out 1).trans rfl; have hcz17_2 : w12.cell? ⟨gb152, 2, none⟩ = some (.int .i64 a0_2) := (yG BK152.out 2).trans rfl; have hcz17_3 : w12.cell? ⟨gb152, 3, none⟩ = some (.bool a0_3) := (yG BK152.out 3).trans rfl; have hcz17_4 : w12.cell? ⟨gb152, 4, none⟩ = some (.int .i64 a0_4) := (yG BK152.out 4).trans rfl; have hcz17_5 : w12.cell? ⟨gb152, 5, none⟩ = some (.int .i64 a0_5) := (yG BK152.out 5).trans rfl; have hcz17_6 : w12.cell? ⟨gb152, 6, none⟩ = some (.int .i64 a0_6) := (yG BK152.out 6).trans rfl; have hcz17_7 : w12.cell? ⟨gb152, 7, none⟩ = some (.int .i64 a0_7) := (yG BK152.out 7).trans rfl; have hcz17_8 : w12.cell? ⟨gb152, 8, none⟩ = some (.int .i64 a0_8) := (yG BK152.out 8).trans rfl; have hcz17_9 : w12.cell? ⟨gb152, 9, none⟩ = some (.int .i64 a0_9) := (yG BK152.out 9).trans rfl; have hcz17_10 : w12.cell? ⟨gb152, 10, none⟩ = some (.slice A0_10 l0_10.length c0_10) := (yG BK152.out 10).trans rfl; have hcz17_11 : w12.cell? ⟨gb152, 11, none⟩ = some (.slice A0_11 l0_11.length c0_11) := (yG BK152.out 11).trans rfl; have hfz17_0 := yR BK152.out 0; have hfz17_1 := yR BK152.out 1; have hfz17_2 := yR BK152.out 2; have hfz17_3 := yR BK152.out 3; have hfz17_4 := yR BK152.out 4; have hfz17_5 := yR BK152.out 5; have hfz17_6 := yR BK152.out 6; have hfz17_7 := yR BK152.out 7; have hfz17_8 := yR BK152.out 8; have hfz17_9 := yR BK152.out 9; have hfz17_10 := yR BK152.out 10; have hfz17_11 := yR BK152.out 11) | ((with_reducible refine gate_callee (f := 95) rfl ?_); refine goesL_ (some 10) rfl rfl Try.func95 (by kernel_rfl) rfl #[.agg #[.int .i64 a0_4, .int .i64 a0_5, .int .i64 a0_6, .int .i64 a0_7]] rfl (by (try simp only [zK, zL, zM]); first | done | rfl | (simp only [zN, zO]; rfl)) ?_; (with_reducible refine (laws_toSuper.calls a0_4 a0_5 a0_6 a0_7 t163 t164 t165 t166 _ A3.out).mono ?_); rintro e w18 ⟨rfl, hb⟩; refine ⟨_, rfl, ?_⟩; have n0_ := yD (zE (by (with_reducible repeat (first | apply yA | apply yB | apply yC)); exact (zF (yF (p := ⟨gb154, 3, none⟩) (yF (p := ⟨gb154, 2, none⟩) (yF (p := ⟨gb154, 1, none⟩) (yF (p := ⟨gb154, 0, none⟩) (Kd.R_types HO157.out BK154.out (by decide)) (fun _ hk => hk.2) (.slice Ao13 t155.length co13)) (fun _ hk => hk.2) (.slice Ao16 t158.length co16)) (fun _ hk => hk.2) (.int .i64 t161)) (fun _ hk => hk.2) (.bool t162)) (fun _ h_ => h_.1))) hb); have n1_ := yD (zE (by (with_reducible repeat (first | apply yA | apply yB | apply yC)); exact (zF (yF (p := ⟨gb154, 3, none⟩) (yF (p := ⟨gb154, 2, none⟩) (yF (p := ⟨gb154, 1, none⟩) (yF (p := ⟨gb154, 0, none⟩) (Kd.R_types HO160.out BK154.out (by decide)) (fun _ hk => hk.2) (.slice Ao13 t155.length co13)) (fun _ hk => hk.2) (.slice Ao16 t158.length co16)) (fun _ hk => hk.2) (.int .i64 t161)) (fun _ hk => hk.2) (.bool t162)) (fun _ h_ => h_.1))) hb); have n2_ := yD (zB (g := gb152) (o := .cells #[.slice A0_0 l0_0.length c0_0, .slice A0_1 l0_1.length c0_1, .int .i64 a0_2, .bool a0_3, .int .i64 a0_4, .int .i64 a0_5, .int .i64 a0_6, .int .i64 a0_7, .int .i64 a0_8, .int .i64 a0_9, .slice A0_10 l0_10.length c0_10, .slice A0_11 l0_11.length c0_11] 79 (0, 0)) (by (with_reducible repeat (first | refine yM ?_ _ | refine yO ?_ | refine yN ?_ _)); refine blk_far ?_ NB152_154.out _; (with_reducible repeat (first | refine yM ?_ _ | refine yO ?_ | refine yN ?_ _)); refine blk_far ?_ NB152_154.out _; (with_reducible repeat (first | refine yM ?_ _ | refine yO ?_ | refine yN ?_ _)); refine blk_far ?_ NB152_154.out _; (with_reducible repeat (first | refine yM ?_ _ | refine yO ?_ | refine yN ?_ _)); refine blk_far ?_ NB152_154.out _; (with_reducible repeat (first | refine yM ?_ _ | refine yO ?_ | refine yN ?_ _)); exact BK152.out) hb); have n3_ := yD (zB (g := gb153) (o := .cells #[.slice none 0 0, .slice none 0 0, .int .i64 0, .bool false, .int .i64 0, .int .i64 0, .int .i64 0, .int .i64 0, .int .i64 0, .int .i64 0, .slice none 0 0, .slice none 0 0] 85 (0, 0)) (by (with_reducible repeat (first | refine yM ?_ _ | refine yO ?_ | refine yN ?_ _)); refine blk_far ?_ NB153_154.out _; (with_reducible repeat (first | refine yM ?_ _ | refine yO ?_ | refine yN ?_ _)); refine blk_far ?_ NB153_154.out _; (with_reducible repeat (first | refine yM ?_ _ | refine yO ?_ | refine yN ?_ _)); refine blk_far ?_ NB153_154.out _; (with_reducible repeat (first | refine yM ?_ _ | refine yO ?_ | refine yN ?_ _)); refine blk_far ?_ NB153_154.out _; (with_reducible repeat (first | refine yM ?_ _ | refine yO ?_ | refine yN ?_ _)); exact BK153.out) hb); have n4_ := yD (zB (g := gb154) (o := .cells #[.slice Ao13 t155.length co13, .slice Ao16 t158.length co16, .int .i64 t161, .bool t162, .int .i64 0, .int .i64 0, .int .i64 0, .int .i64 0, .int .i64 0, .int .i64 0, .slice none 0 0, .slice none 0 0] 85 (0, 0)) (by (with_reducible repeat (first | refine yM ?_ _ | refine yO ?_ | refine yN ?_ _)); refine blk_put (cs := #[.slice Ao13 t155.length co13, .slice Ao16 t158.length co16, .int .i64 t161, .bool false, .int .i64 0, .int .i64 0, .int .i64 0, .int .i64 0, .int .i64 0, .int .i64 0, .slice none 0 0, .slice none 0 0]) ?_ 3 _ rfl; (with_reducible repeat (first | refine yM ?_ _ | refine yO ?_ | refine yN ?_ _)); refine blk_put (cs := #[.slice Ao13 t155.length co13, .slice Ao16 t158.length co16, .int .i64 0, .bool false, .int .i64 0, .int .i64 0, .int .i64 0, .int .i64 0, .int .i64 0, .int .i64 0, .slice none 0 0, .slice none 0 0]) ?_ 2 _ rfl; (with_reducible repeat (first | refine yM ?_ _ | refine yO ?_ | refine yN ?_ _)); refine blk_put (cs := #[.slice Ao13 t155.length co13, .slice none 0 0, .int .i64 0, .bool false, .int .i64 0, .int .i64 0, .int .i64 0, .int .i64 0, .int .i64 0, .int .i64 0, .slice none 0 0, .slice none 0 0]) ?_ 1 _ rfl; (with_reducible repeat (first | refine yM ?_ _ | refine yO ?_ | refine yN ?_ _)); refine blk_put (cs := #[.slice none 0 0, .slice none 0 0, .int .i64 0, .bool false, .int .i64 0, .int .i64 0, .int .i64 0, .int .i64 0, .int .i64 0, .int .i64 0, .slice none 0 0, .slice none 0 0]) ?_ 0 _ rfl; (with_reducible repeat (first | refine yM ?_ _ | refine yO ?_ | refine yN ?_ _)); exact BK154.out) hb); have n5_ := yD (zC (by repeat (first | (with_reducible first | exact HB.out | apply yQ | apply yL | apply yP | refine yE ?_ GE152.out | refine yE ?_ GE153.out | refine yE ?_ GE154.out) | exact HB.out)) hb); clear HO157; clear HO160; clear BK152; clear BK153; clear BK154; clear HB; have HO157 := n0_; have HO160 := n1_; have BK152 := n2_; have BK153 := n3_; have BK154 := n4_; have HB := n5_; clear n0_ n1_ n2_ n3_ n4_ n5_; (try clear hb); (try clear hb2); (try clear hk); (try clear hi); have hcz19_0 : w18.cell? ⟨gb154, 0, none⟩ = some (.slice Ao13 t155.length co13) := (yG BK154.out 0).trans rfl; have hcz19_1 : w18.cell? ⟨gb154, 1, none⟩ = some (.slice Ao16 t158.length co16) := (yG BK154.out 1).trans rfl; have hcz19_2 : w18.cell? ⟨gb154, 2, none⟩ = some (.int .i64 t161) := (yG BK154.out 2).trans rfl; have hcz19_3 : w18.cell? ⟨gb154, 3, none⟩ = some (.bool t162) := (yG BK154.out 3).trans rfl; have hcz19_4 : w18.cell? ⟨gb154, 4, none⟩ = some (.int .i64 0) := (yG BK154.out 4).trans rfl; have hcz19_5 : w18.cell? ⟨gb154, 5, none⟩ = some (.int .i64 0) := (yG BK154.out 5).trans rfl; have hcz19_6 : w18.cell? ⟨gb154, 6, none⟩ = some (.int .i64 0) := (yG BK154.out 6).trans rfl; have hcz19_7 : w18.cell? ⟨gb154, 7, none⟩ = some (.int .i64 0) := (yG BK154.out 7).trans rfl; have hcz19_8 : w18.cell? ⟨gb154, 8, none⟩ = some (.int .i64 0) := (yG BK154.out 8).trans rfl; have hcz19_9 : w18.cell? ⟨gb154, 9, none⟩ = some (.int .i64 0) := (yG BK154.out 9).trans rfl; have hcz19_10 : w18.cell? ⟨gb154, 10, none⟩ = some (.slice none 0 0) := (yG BK154.out 10).trans rfl; have hcz19_11 : w18.cell? ⟨gb154, 11, none⟩ = some (.slice none 0 0) := (yG BK154.out 11).trans rfl; have hfz19_0 := yR BK154.out 0; have hfz19_1 := yR BK154.out 1; have hfz19_2 := yR BK154.out 2; have hfz19_3 := yR BK154.out 3; have hfz19_4 := yR BK154.out 4; have hfz19_5 := yR BK154.out 5; have hfz19_6 := yR BK154.out 6; have hfz19_7 := yR BK154.out 7; have hfz19_8 := yR BK154.out 8; have hfz19_9 := yR BK154.out 9; have hfz19_10 := yR BK154.out 10; have hfz19_11 := yR BK154.out 11; have hcz20_0 : w18.cell? ⟨gb152, 0, none⟩ = some (.slice A0_0 l0_0.length c0_0) := (yG BK152.out 0).trans rfl; have hcz20_1 : w18.cell? ⟨gb152, 1, none⟩ = some (.slice A0_1 l0_1.length c0_1) := (yG BK152.out 1).trans rfl; have hcz20_2 : w18.cell? ⟨gb152, 2, none⟩ = some (.int .i64 a0_2) := (yG BK152.out 2).trans rfl; have hcz20_3 : w18.cell? ⟨gb152, 3, none⟩ = some (.bool a0_3) := (yG BK152.out 3).trans rfl; have hcz20_4 : w18.cell? ⟨gb152, 4, none⟩ = some (.int .i64 a0_4) := (yG BK152.out 4).trans rfl; have hcz20_5 : w18.cell? ⟨gb152, 5, none⟩ = some (.int .i64 a0_5) := (yG BK152.out 5).trans rfl; have hcz20_6 : w18.cell? ⟨gb152, 6, none⟩ = some (.int .i64 a0_6) := (yG BK152.out 6).trans rfl; have hcz20_7 : w18.cell? ⟨gb152, 7, none⟩ = some (.int .i64 a0_7) := (yG BK152.out 7).trans rfl; have hcz20_8 : w18.cell? ⟨gb152, 8, none⟩ = some (.int .i64 a0_8) := (yG BK152.out 8).trans rfl; have hcz20_9 : w18.cell? ⟨gb152, 9, none⟩ = some (.int .i64 a0_9) := (yG BK152.out 9).trans rfl; have hcz20_10 : w18.cell? ⟨gb152, 10, none⟩ = some (.slice A0_10 l0_10.length c0_10) := (yG BK152.out 10).trans rfl; have hcz20_11 : w18.cell? ⟨gb152, 11, none⟩ = some (.slice A0_11 l0_11.length c0_11) := (yG BK152.out 11).trans rfl; have hfz20_0 := yR BK152.out 0; have hfz20_1 := yR BK152.out 1; have hfz20_2 := yR BK152.out 2; have hfz20_3 := yR BK152.out 3; have hfz20_4 := yR BK152.out 4; have hfz20_5 := yR BK152.out 5; have hfz20_6 := yR BK152.out 6; have hfz20_7 := yR BK152.out 7; have hfz20_8 := yR BK152.out 8; have hfz20_9 := yR BK152.out 9; have hfz20_10 := yR BK152.out 10; have hfz20_11 := yR BK152.out 11) | ((with_reducible refine gate_callee (f := 96) rfl ?_); refine goesL_ (some 20) rfl rfl Try.func96 (by kernel_rfl) rfl #[.slice A0_10 l0_10.length c0_10] rfl (by (try simp only [zK, zL, zM]); first | done | rfl | (simp only [zN, zO]; rfl)) ?_; (with_reducible refine (laws_toPageS.calls k _ _ l0_10 t167 _ ?side1 ?side2 A4.out).mono ?_); (case side1 => exact yY HR0_10.out (by repeat (first | (with_reducible first | exact HB.out | apply yQ | apply yL | apply yP | refine yE ?_ GE152.out | refine yE ?_ GE153.out | refine yE ?_ GE154.out) | exact HB.out))); (case side2 => exact HC0_10.out); rintro e w21 ⟨v168, rfl, ho0, hb⟩; refine ⟨_, rfl, ?_⟩; have n0_ := yD (zE (by (with_reducible repeat (first | apply yA | apply yB | apply yC)); exact (zF (yF (p := ⟨gb154, 9, none⟩) (yF (p := ⟨gb154, 8, none⟩) (yF (p := ⟨gb154, 7, none⟩) (yF (p := ⟨gb154, 6, none⟩) (yF (p := ⟨gb154, 5, none⟩) (yF (p := ⟨gb154, 4, none⟩) (Kd.R_types HO157.out BK154.out (by decide)) (fun _ hk => hk.2) (.int .i64 t163)) (fun _ hk => hk.2) (.int .i64 t164)) (fun _ hk => hk.2) (.int .i64 t165)) (fun _ hk => hk.2) (.int .i64 t166)) (fun _ hk => hk.2) (.int .i64 a0_8)) (fun _ hk => hk.2) (.int .i64 a0_9)) (fun _ h_ => h_.1))) hb); have n1_ := yD (zE (by (with_reducible repeat (first | apply yA | apply yB | apply yC)); exact (zF (yF (p := ⟨gb154, 9, none⟩) (yF (p := ⟨gb154, 8, none⟩) (yF (p := ⟨gb154, 7, none⟩) (yF (p := ⟨gb154, 6, none⟩) (yF (p := ⟨gb154, 5, none⟩) (yF (p := ⟨gb154, 4, none⟩) (Kd.R_types HO160.out BK154.out (by decide)) (fun _ hk => hk.2) (.int .i64 t163)) (fun _ hk => hk.2) (.int .i64 t164)) (fun _ hk => hk.2) (.int .i64 t165)) (fun _ hk => hk.2) (.int .i64 t166)) (fun _ hk => hk.2) (.int .i64 a0_8)) (fun _ hk => hk.2) (.int .i64 a0_9)) (fun _ h_ => h_.1))) hb); have n2_ := yD (yZ ho0 (below_size (by repeat (first | (with_reducible first | exact HB.out | apply yQ | apply yL | apply yP | refine yE ?_ GE152.out | refine yE ?_ GE153.out | refine yE ?_ GE154.out) | exact HB.out)))); have n3_ := yD (zB (g := gb152) (o := .cells #[.slice A0_0 l0_0.length c0_0, .slice A0_1 l0_1.length c0_1, .int .i64 a0_2, .bool a0_3, .int .i64 a0_4, .int .i64 a0_5, .int .i64 a0_6, .int .i64 a0_7, .int .i64 a0_8, .int .i64 a0_9, .slice A0_10 l0_10.length c0_10, .slice A0_11 l0_11.length c0_11] 79 (0, 0)) (by (with_reducible repeat (first | refine yM ?_ _ | refine yO ?_ | refine yN ?_ _)); refine blk_far ?_ NB152_154.out _; (with_reducible repeat (first | refine yM ?_ _ | refine yO ?_ | refine yN ?_ _)); refine blk_far ?_ NB152_154.out _; (with_reducible repeat (first | refine yM ?_ _ | refine yO ?_ | refine yN ?_ _)); refine blk_far ?_ NB152_154.out _; (with_reducible repeat (first | refine yM ?_ _ | refine yO ?_ | refine yN ?_ _)); refine blk_far ?_ NB152_154.out _; (with_reducible repeat (first | refine yM ?_ _ | refine yO ?_ | refine yN ?_ _)); refine blk_far ?_ NB152_154.out _; (with_reducible repeat (first | refine yM ?_ _ | refine yO ?_ | refine yN ?_ _)); refine blk_far ?_ NB152_154.out _; (with_reducible repeat (first | refine yM ?_ _ | refine yO ?_ | refine yN ?_ _)); exact BK152.out) hb); have n4_ := yD (zB (g := gb153) (o := .cells #[.slice none 0 0, .slice none 0 0, .int .i64 0, .bool false, .int .i64 0, .int .i64 0, .int .i64 0, .int .i64 0, .int .i64 0, .int .i64 0, .slice none 0 0, .slice none 0 0] 85 (0, 0)) (by (with_reducible repeat (first | refine yM ?_ _ | refine yO ?_ | refine yN ?_ _)); refine blk_far ?_ NB153_154.out _; (with_reducible repeat (first | refine yM ?_ _ | refine yO ?_ | refine yN ?_ _)); refine blk_far ?_ NB153_154.out _; (with_reducible repeat (first | refine yM ?_ _ | refine yO ?_ | refine yN ?_ _)); refine blk_far ?_ NB153_154.out _; (with_reducible repeat (first | refine yM ?_ _ | refine yO ?_ | refine yN ?_ _)); refine blk_far ?_ NB153_154.out _; (with_reducible repeat (first | refine yM ?_ _ | refine yO ?_ | refine yN ?_ _)); refine blk_far ?_ NB153_154.out _; (with_reducible repeat (first | refine yM ?_ _ | refine yO ?_ | refine yN ?_ _)); refine blk_far ?_ NB153_154.out _; (with_reducible repeat (first | refine yM ?_ _ | refine yO ?_ | refine yN ?_ _)); exact BK153.out) hb); have n5_ := yD (zB (g := gb154) (o := .cells #[.slice Ao13 t155.length co13, .slice Ao16 t158.length co16, .int .i64 t161, .bool t162, .int .i64 t163, .int .i64 t164, .int .i64 t165, .int .i64 t166, .int .i64 a0_8, .int .i64 a0_9, .slice none 0 0, .slice none 0 0] 85 (0, 0)) (by (with_reducible repeat (first | refine yM ?_ _ | refine yO ?_ | refine yN ?_ _)); refine blk_put (cs := #[.slice Ao13 t155.length co13, .slice Ao16 t158.length co16, .int .i64 t161, .bool t162, .int .i64 t163, .int .i64 t164, .int .i64 t165, .int .i64 t166, .int .i64 a0_8, .int .i64 0, .slice none 0 0, .slice none 0 0]) ?_ 9 _ rfl; (with_reducible repeat (first | refine yM ?_ _ | refine yO ?_ | refine yN ?_ _)); refine blk_put (cs := #[.slice Ao13 t155.length co13, .slice Ao16 t158.length co16, .int .i64 t161, .bool t162, .int .i64 t163, .int .i64 t164, .int .i64 t165, .int .i64 t166, .int .i64 0, .int .i64 0, .slice none 0 0, .slice none 0 0]) ?_ 8 _ rfl; (with_reducible repeat (first | refine yM ?_ _ | refine yO ?_ | refine yN ?_ _)); refine blk_put (cs := #[.slice Ao13 t155.length co13, .slice Ao16 t158.length co16, .int .i64 t161, .bool t162, .int .i64 t163, .int .i64 t164, .int .i64 t165, .int .i64 0, .int .i64 0, .int .i64 0, .slice none 0 0, .slice none 0 0]) ?_ 7 _ rfl; (with_reducible repeat (first | refine yM ?_ _ | refine yO ?_ | refine yN ?_ _)); refine blk_put (cs := #[.slice Ao13 t155.length co13, .slice Ao16 t158.length co16, .int .i64 t161, .bool t162, .int .i64 t163, .int .i64 t164, .int .i64 0, .int .i64 0, .int .i64 0, .int .i64 0, .slice none 0 0, .slice none 0 0]) ?_ 6 _ rfl; (with_reducible repeat (first | refine yM ?_ _ | refine yO ?_ | refine yN ?_ _)); refine blk_put (cs := #[.slice Ao13 t155.length co13, .slice Ao16 t158.length co16, .int .i64 t161, .bool t162, .int .i64 t163, .int .i64 0, .int .i64 0, .int .i64 0, .int .i64 0, .int .i64 0, .slice none 0 0, .slice none 0 0]) ?_ 5 _ rfl; (with_reducible repeat (first | refine yM ?_ _ | refine yO ?_ | refine yN ?_ _)); refine blk_put (cs := #[.slice Ao13 t155.length co13, .slice Ao16 t158.length co16, .int .i64 t161, .bool t162, .int .i64 0, .int .i64 0, .int .i64 0, .int .i64 0, .int .i64 0, .int .i64 0, .slice none 0 0, .slice none 0 0]) ?_ 4 _ rfl; (with_reducible repeat (first | refine yM ?_ _ | refine yO ?_ | refine yN ?_ _)); exact BK154.out) hb); have n6_ := yD (zC (by repeat (first | (with_reducible first | exact HB.out | apply yQ | apply yL | apply yP | refine yE ?_ GE152.out | refine yE ?_ GE153.out | refine yE ?_ GE154.out) | exact HB.out)) hb); clear HO157; clear HO160; clear BK152; clear BK153; clear BK154; clear HB; have HO157 := n0_; have HO160 := n1_; have HO169 := n2_; have BK152 := n3_; have BK153 := n4_; have BK154 := n5_; have HB := n6_; clear n0_ n1_ n2_ n3_ n4_ n5_ n6_; (try clear hb); (try clear hb2); (try clear hk); (try clear hi); (try clear ho0); obtain ⟨Ao22, co22, eo22⟩ := Kd.R_slice HO169.out; subst eo22; have hcz23_0 : w21.cell? ⟨gb154, 0, none⟩ = some (.slice Ao13 t155.length co13) := (yG BK154.out 0).trans rfl; have hcz23_1 : w21.cell? ⟨gb154, 1, none⟩ = some (.slice Ao16 t158.length co16) := (yG BK154.out 1).trans rfl; have hcz23_2 : w21.cell? ⟨gb154, 2, none⟩ = some (.int .i64 t161) := (yG BK154.out 2).trans rfl; have hcz23_3 : w21.cell? ⟨gb154, 3, none⟩ = some (.bool t162) := (yG BK154.out 3).trans rfl; have hcz23_4 : w21.cell? ⟨gb154, 4, none⟩ = some (.int .i64 t163) := (yG BK154.out 4).trans rfl; have hcz23_5 : w21.cell? ⟨gb154, 5, none⟩ = some (.int .i64 t164) := (yG BK154.out 5).trans rfl; have hcz23_6 : w21.cell? ⟨gb154, 6, none⟩ = some (.int .i64 t165) := (yG BK154.out 6).trans rfl; have hcz23_7 : w21.cell? ⟨gb154, 7, none⟩ = some (.int .i64 t166) := (yG BK154.out 7).trans rfl; have hcz23_8 : w21.cell? ⟨gb154, 8, none⟩ = some (.int .i64 a0_8) := (yG BK154.out 8).trans rfl; have hcz23_9 : w21.cell? ⟨gb154, 9, none⟩ = some (.int .i64 a0_9) := (yG BK154.out 9).trans rfl; have hcz23_10 : w21.cell? ⟨gb154, 10, none⟩ = some (.slice none 0 0) := (yG BK154.out 10).trans rfl; have hcz23_11 : w21.cell? ⟨gb154, 11, none⟩ = some (.slice none 0 0) := (yG BK154.out 11).trans rfl; have hfz23_0 := yR BK154.out 0; have hfz23_1 := yR BK154.out 1; have hfz23_2 := yR BK154.out 2; have hfz23_3 := yR BK154.out 3; have hfz23_4 := yR BK154.out 4; have hfz23_5 := yR BK154.out 5; have hfz23_6 := yR BK154.out 6; have hfz23_7 := yR BK154.out 7; have hfz23_8 := yR BK154.out 8; have hfz23_9 := yR BK154.out 9; have hfz23_10 := yR BK154.out 10; have hfz23_11 := yR BK154.out 11; have hcz24_0 : w21.cell? ⟨gb152, 0, none⟩ = some (.slice A0_0 l0_0.length c0_0) := (yG BK152.out 0).trans rfl; have hcz24_1 : w21.cell? ⟨gb152, 1, none⟩ = some (.slice A0_1 l0_1.length c0_1) := (yG BK152.out 1).trans rfl; have hcz24_2 : w21.cell? ⟨gb152, 2, none⟩ = some (.int .i64 a0_2) := (yG BK152.out 2).trans rfl; have hcz24_3 : w21.cell? ⟨gb152, 3, none⟩ = some (.bool a0_3) := (yG BK152.out 3).trans rfl; have hcz24_4 : w21.cell? ⟨gb152, 4, none⟩ = some (.int .i64 a0_4) := (yG BK152.out 4).trans rfl; have hcz24_5 : w21.cell? ⟨gb152, 5, none⟩ = some (.int .i64 a0_5) := (yG BK152.out 5).trans rfl; have hcz24_6 : w21.cell? ⟨gb152, 6, none⟩ = some (.int .i64 a0_6) := (yG BK152.out 6).trans rfl; have hcz24_7 : w21.cell? ⟨gb152, 7, none⟩ = some (.int .i64 a0_7) := (yG BK152.out 7).trans rfl; have hcz24_8 : w21.cell? ⟨gb152, 8, none⟩ = some (.int .i64 a0_8) := (yG BK152.out 8).trans rfl; have hcz24_9 : w21.cell? ⟨gb152, 9, none⟩ = some (.int .i64 a0_9) := (yG BK152.out 9).trans rfl; have hcz24_10 : w21.cell? ⟨gb152, 10, none⟩ = some (.slice A0_10 l0_10.length c0_10) := (yG BK152.out 10).trans rfl; have hcz24_11 : w21.cell? ⟨gb152, 11, none⟩ = some (.slice A0_11 l0_11.length c0_11) := (yG BK152.out 11).trans rfl; have hfz24_0 := yR BK152.out 0; have hfz24_1 := yR BK152.out 1; have hfz24_2 := yR BK152.out 2; have hfz24_3 := yR BK152.out 3; have hfz24_4 := yR BK152.out 4; have hfz24_5 := yR BK152.out 5; have hfz24_6 := yR BK152.out 6; have hfz24_7 := yR BK152.out 7; have hfz24_8 := yR BK152.out 8; have hfz24_9 := yR BK152.out 9; have hfz24_10 := yR BK152.out 10; have hfz24_11 := yR BK152.out 11) | ((with_reducible refine gate_callee (f := 96) rfl ?_); refine goesL_ (some 24) rfl rfl Try.func96 (by kernel_rfl) rfl #[.slice A0_11 l0_11.length c0_11] rfl (by (try simp only [zK, zL, zM]); first | done | rfl | (simp only [zN, zO]; rfl)) ?_; (with_reducible refine (laws_toPageS.calls k _ _ l0_11 t170 _ ?side1 ?side2 A5.out).mono ?_); (case side1 => exact yY HR0_11.out (by repeat (first | (with_reducible first | exact HB.out | apply yQ | apply yL | apply yP | refine yE ?_ GE152.out | refine yE ?_ GE153.out | refine yE ?_ GE154.out) | exact HB.out))); (case side2 => exact HC0_11.out); rintro e w25 ⟨v171, rfl, ho0, hb⟩; refine ⟨_, rfl, ?_⟩; have n0_ := yD (zE (by (with_reducible repeat (first | apply yA | apply yB | apply yC)); exact (zF (yF (p := ⟨gb154, 10, none⟩) (Kd.R_types HO157.out BK154.out (by decide)) (fun _ hk => hk.2) (.slice Ao22 t167.length co22)) (fun _ h_ => h_.1))) hb); have n1_ := yD (zE (by (with_reducible repeat (first | apply yA | apply yB | apply yC)); exact (zF (yF (p := ⟨gb154, 10, none⟩) (Kd.R_types HO160.out BK154.out (by decide)) (fun _ hk => hk.2) (.slice Ao22 t167.length co22)) (fun _ h_ => h_.1))) hb); have n2_ := yD (Kd.R_elder' (by (with_reducible repeat (first | apply yA | apply yB | apply yC)); exact (zF (yF (p := ⟨gb154, 10, none⟩) (Kd.R_types HO169.out BK154.out (by decide)) (fun _ hk => hk.2) (.slice Ao22 t167.length co22)) (fun _ h_ => h_.1))) (yH ho0) hb); have n3_ := yD (yZ (yJ ho0 (yK (by (with_reducible repeat (first | apply yA | apply yB | apply yC)); exact (zF (yF (p := ⟨gb154, 10, none⟩) (Kd.R_types HO169.out BK154.out (by decide)) (fun _ hk => hk.2) (.slice Ao22 t167.length co22)) (fun _ h_ => h_.1))))) (below_size (by repeat (first | (with_reducible first | exact HB.out | apply yQ | apply yL | apply yP | refine yE ?_ GE152.out | refine yE ?_ GE153.out | refine yE ?_ GE154.out) | exact HB.out)))); have n4_ := yD (zB (g := gb152) (o := .cells #[.slice A0_0 l0_0.length c0_0, .slice A0_1 l0_1.length c0_1, .int .i64 a0_2, .bool a0_3, .int .i64 a0_4, .int .i64 a0_5, .int .i64 a0_6, .int .i64 a0_7, .int .i64 a0_8, .int .i64 a0_9, .slice A0_10 l0_10.length c0_10, .slice A0_11 l0_11.length c0_11] 79 (0, 0)) (by (with_reducible repeat (first | refine yM ?_ _ | refine yO ?_ | refine yN ?_ _)); refine blk_far ?_ NB152_154.out _; (with_reducible repeat (first | refine yM ?_ _ | refine yO ?_ | refine yN ?_ _)); exact BK152.out) hb); have n5_ := yD (zB (g := gb153) (o := .cells #[.slice none 0 0, .slice none 0 0, .int .i64 0, .bool false, .int .i64 0, .int .i64 0, .int .i64 0, .int .i64 0, .int .i64 0, .int .i64 0, .slice none 0 0, .slice none 0 0] 85 (0, 0)) (by (with_reducible repeat (first | refine yM ?_ _ | refine yO ?_ | refine yN ?_ _)); refine blk_far ?_ NB153_154.out _; (with_reducible repeat (first | refine yM ?_ _ | refine yO ?_ | refine yN ?_ _)); exact BK153.out) hb); have n6_ := yD (zB (g := gb154) (o := .cells #[.slice Ao13 t155.length co13, .slice Ao16 t158.length co16, .int .i64 t161, .bool t162, .int .i64 t163, .int .i64 t164, .int .i64 t165, .int .i64 t166, .int .i64 a0_8, .int .i64 a0_9, .slice Ao22 t167.length co22, .slice none 0 0] 85 (0, 0)) (by (with_reducible repeat (first | refine yM ?_ _ | refine yO ?_ | refine yN ?_ _)); refine blk_put (cs := #[.slice Ao13 t155.length co13, .slice Ao16 t158.length co16, .int .i64 t161, .bool t162, .int .i64 t163, .int .i64 t164, .int .i64 t165, .int .i64 t166, .int .i64 a0_8, .int .i64 a0_9, .slice none 0 0, .slice none 0 0]) ?_ 10 _ rfl; (with_reducible repeat (first | refine yM ?_ _ | refine yO ?_ | refine yN ?_ _)); exact BK154.out) hb); have n7_ := yD (zC (by repeat (first | (with_reducible first | exact HB.out | apply yQ | apply yL | apply yP | refine yE ?_ GE152.out | refine yE ?_ GE153.out | refine yE ?_ GE154.out) | exact HB.out)) hb); clear HO157; clear HO160; clear HO169; clear BK152; clear BK153; clear BK154; clear HB; have HO157 := n0_; have HO160 := n1_; have HO169 := n2_; have HO172 := n3_; have BK152 := n4_; have BK153 := n5_; have BK154 := n6_; have HB := n7_; clear n0_ n1_ n2_ n3_ n4_ n5_ n6_ n7_; (try clear hb); (try clear hb2); (try clear hk); (try clear hi); (try clear ho0); obtain ⟨Ao26, co26, eo26⟩ := Kd.R_slice HO172.out; subst eo26; have hcz27_0 : w25.cell? ⟨gb154, 0, none⟩ = some (.slice Ao13 t155.length co13) := (yG BK154.out 0).trans rfl; have hcz27_1 : w25.cell? ⟨gb154, 1, none⟩ = some (.slice Ao16 t158.length co16) := (yG BK154.out 1).trans rfl; have hcz27_2 : w25.cell? ⟨gb154, 2, none⟩ = some (.int .i64 t161) := (yG BK154.out 2).trans rfl; have hcz27_3 : w25.cell? ⟨gb154, 3, none⟩ = some (.bool t162) := (yG BK154.out 3).trans rfl; have hcz27_4 : w25.cell? ⟨gb154, 4, none⟩ = some (.int .i64 t163) := (yG BK154.out 4).trans rfl; have hcz27_5 : w25.cell? ⟨gb154, 5, none⟩ = some (.int .i64 t164) := (yG BK154.out 5).trans rfl; have hcz27_6 : w25.cell? ⟨gb154, 6, none⟩ = some (.int .i64 t165) := (yG BK154.out 6).trans rfl; have hcz27_7 : w25.cell? ⟨gb154, 7, none⟩ = some (.int .i64 t166) := (yG BK154.out 7).trans rfl; have hcz27_8 : w25.cell? ⟨gb154, 8, none⟩ = some (.int .i64 a0_8) := (yG BK154.out 8).trans rfl; have hcz27_9 : w25.cell? ⟨gb154, 9, none⟩ = some (.int .i64 a0_9) := (yG BK154.out 9).trans rfl; have hcz27_10 : w25.cell? ⟨gb154, 10, none⟩ = some (.slice Ao22 t167.length co22) := (yG BK154.out 10).trans rfl; have hcz27_11 : w25.cell? ⟨gb154, 11, none⟩ = some (.slice none 0 0) := (yG BK154.out 11).trans rfl; have hfz27_0 := yR BK154.out 0; have hfz27_1 := yR BK154.out 1; have hfz27_2 := yR BK154.out 2; have hfz27_3 := yR BK154.out 3; have hfz27_4 := yR BK154.out 4; have hfz27_5 := yR BK154.out 5; have hfz27_6 := yR BK154.out 6; have hfz27_7 := yR BK154.out 7; have hfz27_8 := yR BK154.out 8; have hfz27_9 := yR BK154.out 9; have hfz27_10 := yR BK154.out 10; have hfz27_11 := yR BK154.out 11; have hcz28_0 : w25.cell? ⟨gb153, 0, none⟩ = some (.slice none 0 0) := (yG BK153.out 0).trans rfl; have hcz28_1 : w25.cell? ⟨gb153, 1, none⟩ = some (.slice none 0 0) := (yG BK153.out 1).trans rfl; have hcz28_2 : w25.cell? ⟨gb153, 2, none⟩ = some (.int .i64 0) := (yG BK153.out 2).trans rfl; have hcz28_3 : w25.cell? ⟨gb153, 3, none⟩ = some (.bool false) := (yG BK153.out 3).trans rfl; have hcz28_4 : w25.cell? ⟨gb153, 4, none⟩ = some (.int .i64 0) := (yG BK153.out 4).trans rfl; have hcz28_5 : w25.cell? ⟨gb153, 5, none⟩ = some (.int .i64 0) := (yG BK153.out 5).trans rfl; have hcz28_6 : w25.cell? ⟨gb153, 6, none⟩ = some (.int .i64 0) := (yG BK153.out 6).trans rfl; have hcz28_7 : w25.cell? ⟨gb153, 7, none⟩ = some (.int .i64 0) := (yG BK153.out 7).trans rfl; have hcz28_8 : w25.cell? ⟨gb153, 8, none⟩ = some (.int .i64 0) := (yG BK153.out 8).trans rfl; have hcz28_9 : w25.cell? ⟨gb153, 9, none⟩ = some (.int .i64 0) := (yG BK153.out 9).trans rfl; have hcz28_10 : w25.cell? ⟨gb153, 10, none⟩ = some (.slice none 0 0) := (yG BK153.out 10).trans rfl; have hcz28_11 : w25.cell? ⟨gb153, 11, none⟩ = some (.slice none 0 0) := (yG BK153.out 11).trans rfl; have hfz28_0 := yR BK153.out 0; have hfz28_1 := yR BK153.out 1; have hfz28_2 := yR BK153.out 2; have hfz28_3 := yR BK153.out 3; have hfz28_4 := yR BK153.out 4; have hfz28_5 := yR BK153.out 5; have hfz28_6 := yR BK153.out 6; have hfz28_7 := yR BK153.out 7; have hfz28_8 := yR BK153.out 8; have hfz28_9 := yR BK153.out 9; have hfz28_10 := yR BK153.out 10; have hfz28_11 := yR BK153.out 11))
 refine bodyPost_ret (results_cell_row rfl _ _ gb153 85 #[.slice Ao13 t155.length co13, .slice Ao16 t158.length co16, .int .i64 t161, .bool t162, .int .i64 t163, .int .i64 t164, .int .i64 t165, .int .i64 t166, .int .i64 a0_8, .int .i64 a0_9, .slice Ao22 t167.length co22, .slice Ao26 t170.length co26] (0, 0) _ rfl (by (with_reducible repeat (first | refine yM ?_ _ | refine yO ?_ | refine yN ?_ _)); refine blk_put (cs := #[.slice Ao13 t155.length co13, .slice Ao16 t158.length co16, .int .i64 t161, .bool t162, .int .i64 t163, .int .i64 t164, .int .i64 t165, .int .i64 t166, .int .i64 a0_8, .int .i64 a0_9, .slice Ao22 t167.length co22, .slice none 0 0]) ?_ 11 _ rfl; (with_reducible repeat (first | refine yM ?_ _ | refine yO ?_ | refine yN ?_ _)); refine blk_put (cs := #[.slice Ao13 t155.length co13, .slice Ao16 t158.length co16, .int .i64 t161, .bool t162, .int .i64 t163, .int .i64 t164, .int .i64 t165, .int .i64 t166, .int .i64 a0_8, .int .i64 a0_9, .slice none 0 0, .slice none 0 0]) ?_ 10 _ rfl; (with_reducible repeat (first | refine yM ?_ _ | refine yO ?_ | refine yN ?_ _)); refine blk_put (cs := #[.slice Ao13 t155.length co13, .slice Ao16 t158.length co16, .int .i64 t161, .bool t162, .int .i64 t163, .int .i64 t164, .int .i64 t165, .int .i64 t166, .int .i64 a0_8, .int .i64 0, .slice none 0 0, .slice none 0 0]) ?_ 9 _ rfl; (with_reducible repeat (first | refine yM ?_ _ | refine yO ?_ | refine yN ?_ _)); refine blk_put (cs := #[.slice Ao13 t155.length co13, .slice Ao16 t158.length co16, .int .i64 t161, .bool t162, .int .i64 t163, .int .i64 t164, .int .i64 t165, .int .i64 t166, .int .i64 0, .int .i64 0, .slice none 0 0, .slice none 0 0]) ?_ 8 _ rfl; (with_reducible repeat (first | refine yM ?_ _ | refine yO ?_ | refine yN ?_ _)); refine blk_put (cs := #[.slice Ao13 t155.length co13, .slice Ao16 t158.length co16, .int .i64 t161, .bool t162, .int .i64 t163, .int .i64 t164, .int .i64 t165, .int .i64 0, .int .i64 0, .int .i64 0, .slice none 0 0, .slice none 0 0]) ?_ 7 _ rfl; (with_reducible repeat (first | refine yM ?_ _ | refine yO ?_ | refine yN ?_ _)); refine blk_put (cs := #[.slice Ao13 t155.length co13, .slice Ao16 t158.length co16, .int .i64 t161, .bool t162, .int .i64 t163, .int .i64 t164, .int .i64 0, .int .i64 0, .int .i64 0, .int .i64 0, .slice none 0 0, .slice none 0 0]) ?_ 6 _ rfl; (with_reducible repeat (first | refine yM ?_ _ | refine yO ?_ | refine yN ?_ _)); refine blk_put (cs := #[.slice Ao13 t155.length co13, .slice Ao16 t158.length co16, .int .i64 t161, .bool t162, .int .i64 t163, .int .i64 0, .int .i64 0, .int .i64 0, .int .i64 0, .int .i64 0, .slice none 0 0, .slice none 0 0]) ?_ 5 _ rfl; (with_reducible repeat (first | refine yM ?_ _ | refine yO ?_ | refine yN ?_ _)); refine blk_put (cs := #[.slice Ao13 t155.length co13, .slice Ao16 t158.length co16, .int .i64 t161, .bool t162, .int .i64 0, .int .i64 0, .int .i64 0, .int .i64 0, .int .i64 0, .int .i64 0, .slice none 0 0, .slice none 0 0]) ?_ 4 _ rfl; (with_reducible repeat (first | refine yM ?_ _ | refine yO ?_ | refine yN ?_ _)); refine blk_put (cs := #[.slice Ao13 t155.length co13, .slice Ao16 t158.length co16, .int .i64 t161, .bool false, .int .i64 0, .int .i64 0, .int .i64 0, .int .i64 0, .int .i64 0, .int .i64 0, .slice none 0 0, .slice none 0 0]) ?_ 3 _ rfl; (with_reducible repeat (first | refine yM ?_ _ | refine yO ?_ | refine yN ?_ _)); refine blk_put (cs := #[.slice Ao13 t155.length co13, .slice Ao16 t158.length co16, .int .i64 0, .bool false, .int .i64 0, .int .i64 0, .int .i64 0, .int .i64 0, .int .i64 0, .int .i64 0, .slice none 0 0, .slice none 0 0]) ?_ 2 _ rfl; (with_reducible repeat (first | refine yM ?_ _ | refine yO ?_ | refine yN ?_ _)); refine blk_put (cs := #[.slice Ao13 t155.length co13, .slice none 0 0, .int .i64 0, .bool false, .int .i64 0, .int .i64 0, .int .i64 0, .int .i64 0, .int .i64 0, .int .i64 0, .slice none 0 0, .slice none 0 0]) ?_ 1 _ rfl; (with_reducible repeat (first | refine yM ?_ _ | refine yO ?_ | refine yN ?_ _)); refine blk_put (cs := #[.slice none 0 0, .slice none 0 0, .int .i64 0, .bool false, .int .i64 0, .int .i64 0, .int .i64 0, .int .i64 0, .int .i64 0, .int .i64 0, .slice none 0 0, .slice none 0 0]) ?_ 0 _ rfl; (with_reducible repeat (first | refine yM ?_ _ | refine yO ?_ | refine yN ?_ _)); refine blk_far ?_ NB153_154.out _; (with_reducible repeat (first | refine yM ?_ _ | refine yO ?_ | refine yN ?_ _)); exact BK153.out) Try.underlying85 rfl (by kernel_rfl)) rfl ?_
 exact ⟨_, _, _, _, by first | rfl | (simp <;> rfl) | (simp [*] <;> rfl), by (with_reducible repeat (first | apply yA | apply yB | apply yC)); exact zF (yF (p := ⟨gb153, 11, none⟩) (yF (p := ⟨gb153, 10, none⟩) (yF (p := ⟨gb153, 9, none⟩) (yF (p := ⟨gb153, 8, none⟩) (yF (p := ⟨gb153, 7, none⟩) (yF (p := ⟨gb153, 6, none⟩) (yF (p := ⟨gb153, 5, none⟩) (yF (p := ⟨gb153, 4, none⟩) (yF (p := ⟨gb153, 3, none⟩) (yF (p := ⟨gb153, 2, none⟩) (yF (p := ⟨gb153, 1, none⟩) (yF (p := ⟨gb153, 0, none⟩) (yF (p := ⟨gb154, 11, none⟩) (Kd.R_types (Kd.R_types HO157.out BK154.out (by decide)) BK153.out (by decide)) (fun _ hk => hk.1.2) (.slice Ao26 t170.length co26)) (fun _ hk => hk.2) (.slice Ao13 t155.length co13)) (fun _ hk => hk.2) (.slice Ao16 t158.length co16)) (fun _ hk => hk.2) (.int .i64 t161)) (fun _ hk => hk.2) (.bool t162)) (fun _ hk => hk.2) (.int .i64 t163)) (fun _ hk => hk.2) (.int .i64 t164)) (fun _ hk => hk.2) (.int .i64 t165)) (fun _ hk => hk.2) (.int .i64 t166)) (fun _ hk => hk.2) (.int .i64 a0_8)) (fun _ hk => hk.2) (.int .i64 a0_9)) (fun _ hk => hk.2) (.slice Ao22 t167.length co22)) (fun _ hk => hk.2) (.slice Ao26 t170.length co26)) (fun _ hk => trivial), by (with_reducible repeat (first | apply yA | apply yB | apply yC)); exact zF (yF (p := ⟨gb153, 11, none⟩) (yF (p := ⟨gb153, 10, none⟩) (yF (p := ⟨gb153, 9, none⟩) (yF (p := ⟨gb153, 8, none⟩) (yF (p := ⟨gb153, 7, none⟩) (yF (p := ⟨gb153, 6, none⟩) (yF (p := ⟨gb153, 5, none⟩) (yF (p := ⟨gb153, 4, none⟩) (yF (p := ⟨gb153, 3, none⟩) (yF (p := ⟨gb153, 2, none⟩) (yF (p := ⟨gb153, 1, none⟩) (yF (p := ⟨gb153, 0, none⟩) (yF (p := ⟨gb154, 11, none⟩) (Kd.R_types (Kd.R_types HO160.out BK154.out (by decide)) BK153.out (by decide)) (fun _ hk => hk.1.2) (.slice Ao26 t170.length co26)) (fun _ hk => hk.2) (.slice Ao13 t155.length co13)) (fun _ hk => hk.2) (.slice Ao16 t158.length co16)) (fun _ hk => hk.2) (.int .i64 t161)) (fun _ hk => hk.2) (.bool t162)) (fun _ hk => hk.2) (.int .i64 t163)) (fun _ hk => hk.2) (.int .i64 t164)) (fun _ hk => hk.2) (.int .i64 t165)) (fun _ hk => hk.2) (.int .i64 t166)) (fun _ hk => hk.2) (.int .i64 a0_8)) (fun _ hk => hk.2) (.int .i64 a0_9)) (fun _ hk => hk.2) (.slice Ao22 t167.length co22)) (fun _ hk => hk.2) (.slice Ao26 t170.length co26)) (fun _ hk => trivial), by (with_reducible repeat (first | apply yA | apply yB | apply yC)); exact zF (yF (p := ⟨gb153, 11, none⟩) (yF (p := ⟨gb153, 10, none⟩) (yF (p := ⟨gb153, 9, none⟩) (yF (p := ⟨gb153, 8, none⟩) (yF (p := ⟨gb153, 7, none⟩) (yF (p := ⟨gb153, 6, none⟩) (yF (p := ⟨gb153, 5, none⟩) (yF (p := ⟨gb153, 4, none⟩) (yF (p := ⟨gb153, 3, none⟩) (yF (p := ⟨gb153, 2, none⟩) (yF (p := ⟨gb153, 1, none⟩) (yF (p := ⟨gb153, 0, none⟩) (yF (p := ⟨gb154, 11, none⟩) (Kd.R_types (Kd.R_types HO169.out BK154.out (by decide)) BK153.out (by decide)) (fun _ hk => hk.1.2) (.slice Ao26 t170.length co26)) (fun _ hk => hk.2) (.slice Ao13 t155.length co13)) (fun _ hk => hk.2) (.slice Ao16 t158.length co16)) (fun _ hk => hk.2) (.int .i64 t161)) (fun _ hk => hk.2) (.bool t162)) (fun _ hk => hk.2) (.int .i64 t163)) (fun _ hk => hk.2) (.int .i64 t164)) (fun _ hk => hk.2) (.int .i64 t165)) (fun _ hk => hk.2) (.int .i64 t166)) (fun _ hk => hk.2) (.int .i64 a0_8)) (fun _ hk => hk.2) (.int .i64 a0_9)) (fun _ hk => hk.2) (.slice Ao22 t167.length co22)) (fun _ hk => hk.2) (.slice Ao26 t170.length co26)) (fun _ hk => hk.1.1.2), by (with_reducible repeat (first | apply yA | apply yB | apply yC)); exact zF (yF (p := ⟨gb153, 11, none⟩) (yF (p := ⟨gb153, 10, none⟩) (yF (p := ⟨gb153, 9, none⟩) (yF (p := ⟨gb153, 8, none⟩) (yF (p := ⟨gb153, 7, none⟩) (yF (p := ⟨gb153, 6, none⟩) (yF (p := ⟨gb153, 5, none⟩) (yF (p := ⟨gb153, 4, none⟩) (yF (p := ⟨gb153, 3, none⟩) (yF (p := ⟨gb153, 2, none⟩) (yF (p := ⟨gb153, 1, none⟩) (yF (p := ⟨gb153, 0, none⟩) (yF (p := ⟨gb154, 11, none⟩) (Kd.R_types (Kd.R_types HO172.out BK154.out (by decide)) BK153.out (by decide)) (fun _ hk => hk.1.2) (.slice Ao26 t170.length co26)) (fun _ hk => hk.2) (.slice Ao13 t155.length co13)) (fun _ hk => hk.2) (.slice Ao16 t158.length co16)) (fun _ hk => hk.2) (.int .i64 t161)) (fun _ hk => hk.2) (.bool t162)) (fun _ hk => hk.2) (.int .i64 t163)) (fun _ hk => hk.2) (.int .i64 t164)) (fun _ hk => hk.2) (.int .i64 t165)) (fun _ hk => hk.2) (.int .i64 t166)) (fun _ hk => hk.2) (.int .i64 a0_8)) (fun _ hk => hk.2) (.int .i64 a0_9)) (fun _ hk => hk.2) (.slice Ao22 t167.length co22)) (fun _ hk => hk.2) (.slice Ao26 t170.length co26)) (fun _ hk => hk.1.1.2), by repeat (first | (with_reducible first | exact HB.out | apply yQ | apply yL | apply yP | refine yE ?_ GE152.out | refine yE ?_ GE153.out | refine yE ?_ GE154.out) | exact HB.out)⟩

/-! ### spec_SameDisk: function 92 -/
mutual
def spec_SameDisk.j0 : Nat → Bool → List ByteArray → List (S131) → Int → Bool → List ByteArray → List (S131) → Int → Bool → Option (Bool)
 | 0, _, _, _, _, _, _, _, _, _ => none
 | k + 1, x36, x174000, x174001, x174002, x174003, x175000, x175001, x175002, x175003 => if x36 = true then (some false) else (spec_SameDisk.l0 k 0 x174000 x174001 x174002 x174003 x175000 x175001 x175002 x175003)
def spec_SameDisk.l0 : Nat → Int → List ByteArray → List (S131) → Int → Bool → List ByteArray → List (S131) → Int → Bool → Option (Bool)
 | 0, _, _, _, _, _, _, _, _, _ => none
 | k + 1, x5, x174000, x174001, x174002, x174003, x175000, x175001, x175002, x175003 => if x5 < (x174000.length : Int) then (if 0 ≤ x5 then (if x5 < (x175000.length : Int) then (if (rdOf ByteArray.empty x174000 x5).toList = (rdOf ByteArray.empty x175000 x5).toList then (spec_SameDisk.l0 k (wrap64 (x5 + 1)) x174000 x174001 x174002 x174003 x175000 x175001 x175002 x175003) else (some false)) else (none)) else (none)) else (spec_SameDisk.l1 k 0 x174000 x174001 x174002 x174003 x175000 x175001 x175002 x175003)
def spec_SameDisk.l1 : Nat → Int → List ByteArray → List (S131) → Int → Bool → List ByteArray → List (S131) → Int → Bool → Option (Bool)
 | 0, _, _, _, _, _, _, _, _, _ => none
 | k + 1, x6, x174000, x174001, x174002, x174003, x175000, x175001, x175002, x175003 => if x6 < (x174001.length : Int) then (if 0 ≤ x6 then (if x6 < (x175001.length : Int) then (if (!(((rd_T131 x174001 x6).f0) == ((rd_T131 x175001 x6).f0)) || (!((((rd_T131 x174001 x6).f1).toList) == (((rd_T131 x175001 x6).f1).toList)))) = true then (some false) else (spec_SameDisk.l1 k (wrap64 (x6 + 1)) x174000 x174001 x174002 x174003 x175000 x175001 x175002 x175003)) else (none)) else (none)) else (some true)
end
def spec_SameDisk.f (k : Nat) (l0_0 : List ByteArray) (l0_1 : List (S131)) (a0_2 : Int) (a0_3 : Bool) (l1_0 : List ByteArray) (l1_1 : List (S131)) (a1_2 : Int) (a1_3 : Bool) : Option (Bool) := if (l0_0.length : Int) = (l1_0.length : Int) then (if (l0_1.length : Int) = (l1_1.length : Int) then (if a0_2 = a1_2 then (spec_SameDisk.j0 k (a0_3 != a1_3) l0_0 l0_1 a0_2 a0_3 l1_0 l1_1 a1_2 a1_3) else (spec_SameDisk.j0 k true l0_0 l0_1 a0_2 a0_3 l1_0 l1_1 a1_2 a1_3)) else (spec_SameDisk.j0 k true l0_0 l0_1 a0_2 a0_3 l1_0 l1_1 a1_2 a1_3)) else (spec_SameDisk.j0 k true l0_0 l0_1 a0_2 a0_3 l1_0 l1_1 a1_2 a1_3)
theorem spec_SameDisk.mono_l : ∀ k, (∀ y0 y1 y2 y3 y4 y5 y6 y7 y8, LeO (spec_SameDisk.j0 k y0 y1 y2 y3 y4 y5 y6 y7 y8) (spec_SameDisk.j0 (k + 1) y0 y1 y2 y3 y4 y5 y6 y7 y8)) ∧ (∀ y0 y1 y2 y3 y4 y5 y6 y7 y8, LeO (spec_SameDisk.l0 k y0 y1 y2 y3 y4 y5 y6 y7 y8) (spec_SameDisk.l0 (k + 1) y0 y1 y2 y3 y4 y5 y6 y7 y8)) ∧ (∀ y0 y1 y2 y3 y4 y5 y6 y7 y8, LeO (spec_SameDisk.l1 k y0 y1 y2 y3 y4 y5 y6 y7 y8) (spec_SameDisk.l1 (k + 1) y0 y1 y2 y3 y4 y5 y6 y7 y8))
 | 0 => ⟨fun _ _ _ _ _ _ _ _ _ r h => by simp [spec_SameDisk.j0] at h, fun _ _ _ _ _ _ _ _ _ r h => by simp [spec_SameDisk.l0] at h, fun _ _ _ _ _ _ _ _ _ r h => by simp [spec_SameDisk.l1] at h⟩
 | k + 1 => by
  obtain ⟨ih0, ih1, ih2⟩ := spec_SameDisk.mono_l k
  refine ⟨?_, ?_, ?_⟩
  ·
   intro y0 y1 y2 y3 y4 y5 y6 y7 y8
   unfold spec_SameDisk.j0
   repeat' first
   | (with_reducible exact ih0 _ _ _ _ _ _ _ _ _)
   | (with_reducible exact ih1 _ _ _ _ _ _ _ _ _)
   | (with_reducible exact ih2 _ _ _ _ _ _ _ _ _)
   | (with_reducible exact LeO.refl _)
   | (with_reducible exact LeO.none _)
   | (with_reducible refine LeO.ite ?_ ?_)
   | (with_reducible refine LeO.bind ?_ (fun _ => ?_))
   | exact ih0 _ _ _ _ _ _ _ _ _
   | exact ih1 _ _ _ _ _ _ _ _ _
   | exact ih2 _ _ _ _ _ _ _ _ _
   | exact LeO.none _
   | refine LeO.ite ?_ ?_
   | refine LeO.bind ?_ (fun _ => ?_)
  ·
   intro y0 y1 y2 y3 y4 y5 y6 y7 y8
   unfold spec_SameDisk.l0
   repeat' first
   | (with_reducible exact ih0 _ _ _ _ _ _ _ _ _)
   | (with_reducible exact ih1 _ _ _ _ _ _ _ _ _)
   | (with_reducible exact ih2 _ _ _ _ _ _ _ _ _)
   | (with_reducible exact LeO.refl _)
   | (with_reducible exact LeO.none _)
   | (with_reducible refine LeO.ite ?_ ?_)
   | (with_reducible refine LeO.bind ?_ (fun _ => ?_))
   | exact ih0 _ _ _ _ _ _ _ _ _
   | exact ih1 _ _ _ _ _ _ _ _ _
   | exact ih2 _ _ _ _ _ _ _ _ _
   | exact LeO.none _
   | refine LeO.ite ?_ ?_
   | refine LeO.bind ?_ (fun _ => ?_)
  ·
   intro y0 y1 y2 y3 y4 y5 y6 y7 y8
   unfold spec_SameDisk.l1
   repeat' first
   | (with_reducible exact ih0 _ _ _ _ _ _ _ _ _)
   | (with_reducible exact ih1 _ _ _ _ _ _ _ _ _)
   | (with_reducible exact ih2 _ _ _ _ _ _ _ _ _)
   | (with_reducible exact LeO.refl _)
   | (with_reducible exact LeO.none _)
   | (with_reducible refine LeO.ite ?_ ?_)
   | (with_reducible refine LeO.bind ?_ (fun _ => ?_))
   | exact ih0 _ _ _ _ _ _ _ _ _
   | exact ih1 _ _ _ _ _ _ _ _ _
   | exact ih2 _ _ _ _ _ _ _ _ _
   | exact LeO.none _
   | refine LeO.ite ?_ ?_
   | refine LeO.bind ?_ (fun _ => ?_)
theorem spec_SameDisk.mono : ∀ a0 a1 a2 a3 a4 a5 a6 a7 k, LeO (spec_SameDisk.f k a0 a1 a2 a3 a4 a5 a6 a7) (spec_SameDisk.f (k + 1) a0 a1 a2 a3 a4 a5 a6 a7) := by
 intro a0 a1 a2 a3 a4 a5 a6 a7 k
 obtain ⟨ih0, ih1, ih2⟩ := spec_SameDisk.mono_l k
 unfold spec_SameDisk.f
 repeat' first
   | (with_reducible exact ih0 _ _ _ _ _ _ _ _ _)
   | (with_reducible exact ih1 _ _ _ _ _ _ _ _ _)
   | (with_reducible exact ih2 _ _ _ _ _ _ _ _ _)
   | (with_reducible exact LeO.refl _)
   | (with_reducible exact LeO.none _)
   | (with_reducible refine LeO.ite ?_ ?_)
   | (with_reducible refine LeO.bind ?_ (fun _ => ?_))
   | exact ih0 _ _ _ _ _ _ _ _ _
   | exact ih1 _ _ _ _ _ _ _ _ _
   | exact ih2 _ _ _ _ _ _ _ _ _
   | exact LeO.none _
   | refine LeO.ite ?_ ?_
   | refine LeO.bind ?_ (fun _ => ?_)
set_option maxHeartbeats 8000000 in
set_option maxRecDepth 100000 in
theorem spec_SameDisk.calls (k : Nat) (A0_0 : Option Addr) (c0_0 : Nat) (l0_0 : List ByteArray) (A0_1 : Option Addr) (c0_1 : Nat) (l0_1 : List (S131)) (a0_2 : Int) (a0_3 : Bool) (A1_0 : Option Addr) (c1_0 : Nat) (l1_0 : List ByteArray) (A1_1 : Option Addr) (c1_1 : Nat) (l1_1 : List (S131)) (a1_2 : Int) (a1_3 : Bool) (r : Bool) (w : World) (hr0_0 : Kd.C Kd.string w A0_0 l0_0.length l0_0) (hc0_0 : l0_0.length ≤ c0_0) (hr0_1 : Kd.C k131 w A0_1 l0_1.length l0_1) (hc0_1 : l0_1.length ≤ c0_1) (hr1_0 : Kd.C Kd.string w A1_0 l1_0.length l1_0) (hc1_0 : l1_0.length ≤ c1_0) (hr1_1 : Kd.C k131 w A1_1 l1_1.length l1_1) (hc1_1 : l1_1.length ≤ c1_1) (h : spec_SameDisk.f k l0_0 l0_1 a0_2 a0_3 l1_0 l1_1 a1_2 a1_3 = some r) :
  Calls Try.prog 92 #[.agg #[.slice A0_0 l0_0.length c0_0, .slice A0_1 l0_1.length c0_1, .int .i64 a0_2, .bool a0_3], .agg #[.slice A1_0 l1_0.length c1_0, .slice A1_1 l1_1.length c1_1, .int .i64 a1_2, .bool a1_3]] w fun e w' => e = .returned (.bool r) ∧ Below w.heap.size w w' := by
 have hu36 := Try.underlying36; have hu131 := Try.underlying131
 have HR0_0 := yD hr0_0
 have HC0_0 := yD hc0_0
 clear hr0_0 hc0_0
 have HR0_1 := yD hr0_1
 have HC0_1 := yD hc0_1
 clear hr0_1 hc0_1
 have HR1_0 := yD hr1_0
 have HC1_0 := yD hc1_0
 clear hr1_0 hc1_0
 have HR1_1 := yD hr1_1
 have HC1_1 := yD hc1_1
 clear hr1_1 hc1_1
 have HB := yD (Below.refl w.heap.size w)
 have H : (if (l0_0.length : Int) = (l1_0.length : Int) then (if (l0_1.length : Int) = (l1_1.length : Int) then (if a0_2 = a1_2 then (spec_SameDisk.j0 k (a0_3 != a1_3) l0_0 l0_1 a0_2 a0_3 l1_0 l1_1 a1_2 a1_3) else (spec_SameDisk.j0 k true l0_0 l0_1 a0_2 a0_3 l1_0 l1_1 a1_2 a1_3)) else (spec_SameDisk.j0 k true l0_0 l0_1 a0_2 a0_3 l1_0 l1_1 a1_2 a1_3)) else (spec_SameDisk.j0 k true l0_0 l0_1 a0_2 a0_3 l1_0 l1_1 a1_2 a1_3)) = some r := h
 clear h
 have HC3 := yD H
 clear H; go_enter Try.func92, Try.ntmps92
 go_upto_region 1 with (first | ((with_reducible refine gate_dst (N := 2) rfl ?_); (try (refine gate_guard (by rfl) ?_; dsimp only)); refine box_event ?hg (N := 2) ?hd (cs := #[.slice A0_0 l0_0.length c0_0, .slice A0_1 l0_1.length c0_1, .int .i64 a0_2, .bool a0_3]) (t := 36) ?hr ?_; (case hd => rfl); (case hg => rfl); (case hr => first | (go_simp; done) | (go_simp; rfl)); intro gb173 hg w4 hbox hb; have n0_ := yD (zC (by repeat (first | (with_reducible first | exact HB.out | apply yQ | apply yL | apply yP) | exact HB.out)) hb); have n1_ := yD (hbox); have n2_ := yD ((by rw [hg]; exact (below_size (by repeat (first | (with_reducible first | exact HB.out | apply yQ | apply yL | apply yP) | exact HB.out))) : w.heap.size ≤ gb173)); have n3_ := yD ((by rw [hg]; exact (below_size (by repeat (first | (with_reducible first | exact HB.out | apply yQ | apply yL | apply yP) | exact HB.out))) : w.heap.size ≤ gb173)); clear HB; have HB := n0_; have BK173 := n1_; have GW173 := n2_; have GE173 := n3_; clear n0_ n1_ n2_ n3_; clear hb hbox hg) | ((with_reducible refine gate_dst (N := 3) rfl ?_); (try (refine gate_guard (by rfl) ?_; dsimp only)); refine box_event ?hg (N := 3) ?hd (cs := #[.slice A1_0 l1_0.length c1_0, .slice A1_1 l1_1.length c1_1, .int .i64 a1_2, .bool a1_3]) (t := 36) ?hr ?_; (case hd => rfl); (case hg => rfl); (case hr => first | (go_simp; done) | (go_simp; rfl)); intro gb174 hg w5 hbox hb; have n0_ := yD (zB (g := gb173) (o := .cells #[.slice A0_0 l0_0.length c0_0, .slice A0_1 l0_1.length c0_1, .int .i64 a0_2, .bool a0_3] 36 (0, 0)) (by (with_reducible repeat (first | refine yM ?_ _ | refine yO ?_ | refine yN ?_ _)); exact BK173.out) hb); have n1_ := yD (zC (by repeat (first | (with_reducible first | exact HB.out | apply yQ | apply yL | apply yP | refine yE ?_ GE173.out) | exact HB.out)) hb); have n2_ := yD (hbox); have n3_ := yD ((by rw [hg]; exact (below_size (by repeat (first | (with_reducible first | exact HB.out | apply yQ | apply yL | apply yP | refine yE ?_ GE173.out) | exact HB.out))) : w.heap.size ≤ gb174)); have n4_ := yD ((by rw [hg]; exact (below_size (by repeat (first | (with_reducible first | exact HB.out | apply yQ | apply yL | apply yP | refine yE ?_ GE173.out) | exact HB.out))) : w.heap.size ≤ gb174)); have n5_ := yD ((by rw [hg]; exact Nat.ne_of_lt (blk_lt (g := gb173) (o := .cells #[.slice A0_0 l0_0.length c0_0, .slice A0_1 l0_1.length c0_1, .int .i64 a0_2, .bool a0_3] 36 (0, 0)) (by (with_reducible repeat (first | refine yM ?_ _ | refine yO ?_ | refine yN ?_ _)); exact BK173.out)) : gb173 ≠ gb174)); have n6_ := yD ((by rw [hg]; exact Nat.ne_of_gt (blk_lt (g := gb173) (o := .cells #[.slice A0_0 l0_0.length c0_0, .slice A0_1 l0_1.length c0_1, .int .i64 a0_2, .bool a0_3] 36 (0, 0)) (by (with_reducible repeat (first | refine yM ?_ _ | refine yO ?_ | refine yN ?_ _)); exact BK173.out)) : gb174 ≠ gb173)); clear BK173; clear HB; have BK173 := n0_; have HB := n1_; have BK174 := n2_; have GW174 := n3_; have GE174 := n4_; have NB173_174 := n5_; have NB174_173 := n6_; clear n0_ n1_ n2_ n3_ n4_ n5_ n6_; clear hb hbox hg))
 repeat (go_quiet (first | ((with_reducible refine gate_dst (N := 2) rfl ?_); (try (refine gate_guard (by rfl) ?_; dsimp only)); refine box_event ?hg (N := 2) ?hd (cs := #[.slice A0_0 l0_0.length c0_0, .slice A0_1 l0_1.length c0_1, .int .i64 a0_2, .bool a0_3]) (t := 36) ?hr ?_; (case hd => rfl); (case hg => rfl); (case hr => first | (go_simp; done) | (go_simp; rfl)); intro gb173 hg w4 hbox hb; have n0_ := yD (zC (by repeat (first | (with_reducible first | exact HB.out | apply yQ | apply yL | apply yP) | exact HB.out)) hb); have n1_ := yD (hbox); have n2_ := yD ((by rw [hg]; exact (below_size (by repeat (first | (with_reducible first | exact HB.out | apply yQ | apply yL | apply yP) | exact HB.out))) : w.heap.size ≤ gb173)); have n3_ := yD ((by rw [hg]; exact (below_size (by repeat (first | (with_reducible first | exact HB.out | apply yQ | apply yL | apply yP) | exact HB.out))) : w.heap.size ≤ gb173)); clear HB; have HB := n0_; have BK173 := n1_; have GW173 := n2_; have GE173 := n3_; clear n0_ n1_ n2_ n3_; clear hb hbox hg) | ((with_reducible refine gate_dst (N := 3) rfl ?_); (try (refine gate_guard (by rfl) ?_; dsimp only)); refine box_event ?hg (N := 3) ?hd (cs := #[.slice A1_0 l1_0.length c1_0, .slice A1_1 l1_1.length c1_1, .int .i64 a1_2, .bool a1_3]) (t := 36) ?hr ?_; (case hd => rfl); (case hg => rfl); (case hr => first | (go_simp; done) | (go_simp; rfl)); intro gb174 hg w5 hbox hb; have n0_ := yD (zB (g := gb173) (o := .cells #[.slice A0_0 l0_0.length c0_0, .slice A0_1 l0_1.length c0_1, .int .i64 a0_2, .bool a0_3] 36 (0, 0)) (by (with_reducible repeat (first | refine yM ?_ _ | refine yO ?_ | refine yN ?_ _)); exact BK173.out) hb); have n1_ := yD (zC (by repeat (first | (with_reducible first | exact HB.out | apply yQ | apply yL | apply yP | refine yE ?_ GE173.out) | exact HB.out)) hb); have n2_ := yD (hbox); have n3_ := yD ((by rw [hg]; exact (below_size (by repeat (first | (with_reducible first | exact HB.out | apply yQ | apply yL | apply yP | refine yE ?_ GE173.out) | exact HB.out))) : w.heap.size ≤ gb174)); have n4_ := yD ((by rw [hg]; exact (below_size (by repeat (first | (with_reducible first | exact HB.out | apply yQ | apply yL | apply yP | refine yE ?_ GE173.out) | exact HB.out))) : w.heap.size ≤ gb174)); have n5_ := yD ((by rw [hg]; exact Nat.ne_of_lt (blk_lt (g := gb173) (o := .cells #[.slice A0_0 l0_0.length c0_0, .slice A0_1 l0_1.length c0_1, .int .i64 a0_2, .bool a0_3] 36 (0, 0)) (by (with_reducible repeat (first | refine yM ?_ _ | refine yO ?_ | refine yN ?_ _)); exact BK173.out)) : gb173 ≠ gb174)); have n6_ := yD ((by rw [hg]; exact Nat.ne_of_gt (blk_lt (g := gb173) (o := .cells #[.slice A0_0 l0_0.length c0_0, .slice A0_1 l0_1.length c0_1, .int .i64 a0_2, .bool a0_3] 36 (0, 0)) (by (with_reducible repeat (first | refine yM ?_ _ | refine yO ?_ | refine yN ?_ _)); exact BK173.out)) : gb174 ≠ gb173)); clear BK173; clear HB; have BK173 := n0_; have HB := n1_; have BK174 := n2_; have GW174 := n3_; have GE174 := n4_; have NB173_174 := n5_; have NB174_173 := n6_; clear n0_ n1_ n2_ n3_ n4_ n5_ n6_; clear hb hbox hg)); go_upto_region 1 with (first | ((with_reducible refine gate_dst (N := 2) rfl ?_); (try (refine gate_guard (by rfl) ?_; dsimp only)); refine box_event ?hg (N := 2) ?hd (cs := #[.slice A0_0 l0_0.length c0_0, .slice A0_1 l0_1.length c0_1, .int .i64 a0_2, .bool a0_3]) (t := 36) ?hr ?_; (case hd => rfl); (case hg => rfl); (case hr => first | (go_simp; done) | (go_simp; rfl)); intro gb173 hg w4 hbox hb; have n0_ := yD (zC (by repeat (first | (with_reducible first | exact HB.out | apply yQ | apply yL | apply yP) | exact HB.out)) hb); have n1_ := yD (hbox); have n2_ := yD ((by rw [hg]; exact (below_size (by repeat (first | (with_reducible first | exact HB.out | apply yQ | apply yL | apply yP) | exact HB.out))) : w.heap.size ≤ gb173)); have n3_ := yD ((by rw [hg]; exact (below_size (by repeat (first | (with_reducible first | exact HB.out | apply yQ | apply yL | apply yP) | exact HB.out))) : w.heap.size ≤ gb173)); clear HB; have HB := n0_; have BK173 := n1_; have GW173 := n2_; have GE173 := n3_; clear n0_ n1_ n2_ n3_; clear hb hbox hg) | ((with_reducible refine gate_dst (N := 3) rfl ?_); (try (refine gate_guard (by rfl) ?_; dsimp only)); refine box_event ?hg (N := 3) ?hd (cs := #[.slice A1_0 l1_0.length c1_0, .slice A1_1 l1_1.length c1_1, .int .i64 a1_2, .bool a1_3]) (t := 36) ?hr ?_; (case hd => rfl); (case hg => rfl); (case hr => first | (go_simp; done) | (go_simp; rfl)); intro gb174 hg w5 hbox hb; have n0_ := yD (zB (g := gb173) (o := .cells #[.slice A0_0 l0_0.length c0_0, .slice A0_1 l0_1.length c0_1, .int .i64 a0_2, .bool a0_3] 36 (0, 0)) (by (with_reducible repeat (first | refine yM ?_ _ | refine yO ?_ | refine yN ?_ _)); exact BK173.out) hb); have n1_ := yD (zC (by repeat (first | (with_reducible first | exact HB.out | apply yQ | apply yL | apply yP | refine yE ?_ GE173.out) | exact HB.out)) hb); have n2_ := yD (hbox); have n3_ := yD ((by rw [hg]; exact (below_size (by repeat (first | (with_reducible first | exact HB.out | apply yQ | apply yL | apply yP | refine yE ?_ GE173.out) | exact HB.out))) : w.heap.size ≤ gb174)); have n4_ := yD ((by rw [hg]; exact (below_size (by repeat (first | (with_reducible first | exact HB.out | apply yQ | apply yL | apply yP | refine yE ?_ GE173.out) | exact HB.out))) : w.heap.size ≤ gb174)); have n5_ := yD ((by rw [hg]; exact Nat.ne_of_lt (blk_lt (g := gb173) (o := .cells #[.slice A0_0 l0_0.length c0_0, .slice A0_1 l0_1.length c0_1, .int .i64 a0_2, .bool a0_3] 36 (0, 0)) (by (with_reducible repeat (first | refine yM ?_ _ | refine yO ?_ | refine yN ?_ _)); exact BK173.out)) : gb173 ≠ gb174)); have n6_ := yD ((by rw [hg]; exact Nat.ne_of_gt (blk_lt (g := gb173) (o := .cells #[.slice A0_0 l0_0.length c0_0, .slice A0_1 l0_1.length c0_1, .int .i64 a0_2, .bool a0_3] 36 (0, 0)) (by (with_reducible repeat (first | refine yM ?_ _ | refine yO ?_ | refine yN ?_ _)); exact BK173.out)) : gb174 ≠ gb173)); clear BK173; clear HB; have BK173 := n0_; have HB := n1_; have BK174 := n2_; have GW174 := n3_; have GE174 := n4_; have NB173_174 := n5_; have NB174_173 := n6_; clear n0_ n1_ n2_ n3_ n4_ n5_ n6_; clear hb hbox hg)))
 (try simp only [Act.put, zH, zI, zJ])
 go_cut [36] (fun v36 wc => ∃ (kq : Nat) (x36_2 : Bool), v36 = .bool x36_2 ∧ Aside0 (spec_SameDisk.j0 kq x36_2 l0_0 l0_1 a0_2 a0_3 l1_0 l1_1 a1_2 a1_3 = some r) ∧ Aside0 (kq ≤ k) ∧ Aside0 (wc.heap[gb173]? = some (.cells #[(.slice A0_0 l0_0.length c0_0), (.slice A0_1 l0_1.length c0_1), .int .i64 a0_2, .bool a0_3] 36 (0, 0))) ∧ Aside0 (wc.heap[gb174]? = some (.cells #[(.slice A1_0 l1_0.length c1_0), (.slice A1_1 l1_1.length c1_1), .int .i64 a1_2, .bool a1_3] 36 (0, 0))) ∧ Aside0 (Below w.heap.size w wc))
 case first =>
  have H := HC3.out; clear HC3
  by_cases c6 : (l0_0.length : Int) = (l1_0.length : Int)
  ·
   rw [if_pos c6] at H
   have c6b0 : ((l0_0.length : Int) == (l1_0.length : Int)) = true := beq_iff_eq.mpr c6
   have c6b1 : ((l0_0.length : Int) != (l1_0.length : Int)) = false := bne_eq_false_iff_eq.mpr c6
   have c6b2 : (l0_0.length == l1_0.length) = true := by first | simpa using c6 | (simp at c6 ⊢; omega)
   clear c6
   (first | rw [c6b0] | (simp only [i64_w, i32_w]; rw [c6b0]) | (simp only [bne] at c6b0; rw [c6b0]) | skip)
   by_cases c7 : (l0_1.length : Int) = (l1_1.length : Int)
   ·
    rw [if_pos c7] at H
    have c7b0 : ((l0_1.length : Int) == (l1_1.length : Int)) = true := beq_iff_eq.mpr c7
    have c7b1 : ((l0_1.length : Int) != (l1_1.length : Int)) = false := bne_eq_false_iff_eq.mpr c7
    have c7b2 : (l0_1.length == l1_1.length) = true := by first | simpa using c7 | (simp at c7 ⊢; omega)
    clear c7
    by_cases c8 : a0_2 = a1_2
    ·
     rw [if_pos c8] at H
     have c8b0 : (a0_2 == a1_2) = true := beq_iff_eq.mpr c8
     have c8b1 : (a0_2 != a1_2) = false := bne_eq_false_iff_eq.mpr c8
     clear c8
     have H' := yD H
     clear H; have hnb9 := NB173_174.out; have hnc9 := NB174_173.out
     have hcz10_0 : w5.cell? ⟨gb173, 0, none⟩ = some (.slice A0_0 l0_0.length c0_0) := (yG BK173.out 0).trans rfl
     have hcz10_1 : w5.cell? ⟨gb173, 1, none⟩ = some (.slice A0_1 l0_1.length c0_1) := (yG BK173.out 1).trans rfl
     have hcz10_2 : w5.cell? ⟨gb173, 2, none⟩ = some (.int .i64 a0_2) := (yG BK173.out 2).trans rfl
     have hcz10_3 : w5.cell? ⟨gb173, 3, none⟩ = some (.bool a0_3) := (yG BK173.out 3).trans rfl
     have hfz10_0 := yR BK173.out 0
     have hfz10_1 := yR BK173.out 1
     have hfz10_2 := yR BK173.out 2
     have hfz10_3 := yR BK173.out 3
     have hcz11_0 : w5.cell? ⟨gb174, 0, none⟩ = some (.slice A1_0 l1_0.length c1_0) := (yG BK174.out 0).trans rfl
     have hcz11_1 : w5.cell? ⟨gb174, 1, none⟩ = some (.slice A1_1 l1_1.length c1_1) := (yG BK174.out 1).trans rfl
     have hcz11_2 : w5.cell? ⟨gb174, 2, none⟩ = some (.int .i64 a1_2) := (yG BK174.out 2).trans rfl
     have hcz11_3 : w5.cell? ⟨gb174, 3, none⟩ = some (.bool a1_3) := (yG BK174.out 3).trans rfl
     have hfz11_0 := yR BK174.out 0
     have hfz11_1 := yR BK174.out 1
     have hfz11_2 := yR BK174.out 2
     have hfz11_3 := yR BK174.out 3
     go_wp2
     repeat (go_quiet (fail); try go_wp2)
     go_meet
     case rel => exact ⟨_, ((a0_3 != a1_3)), (by first | rfl | (simp; done) | (simp [*]; done)), H', ⟨by first | omega | exact Nat.le_refl _⟩, ⟨by (with_reducible repeat (first | refine yM ?_ _ | refine yO ?_ | refine yN ?_ _)); exact BK173.out⟩, ⟨by (with_reducible repeat (first | refine yM ?_ _ | refine yO ?_ | refine yN ?_ _)); exact BK174.out⟩, ⟨by repeat (first | (with_reducible first | exact HB.out | apply yQ | apply yL | apply yP | refine yE ?_ GE173.out | refine yE ?_ GE174.out) | exact HB.out)⟩⟩
    ·
     rw [if_neg c8] at H
     have c8b0 : (a0_2 == a1_2) = false := beq_eq_false_iff_ne.mpr c8
     have c8b1 : (a0_2 != a1_2) = true := bne_iff_ne.mpr c8
     have H' := yD H
     clear H; have hnb12 := NB173_174.out; have hnc12 := NB174_173.out
     have hcz13_0 : w5.cell? ⟨gb173, 0, none⟩ = some (.slice A0_0 l0_0.length c0_0) := (yG BK173.out 0).trans rfl
     have hcz13_1 : w5.cell? ⟨gb173, 1, none⟩ = some (.slice A0_1 l0_1.length c0_1) := (yG BK173.out 1).trans rfl
     have hcz13_2 : w5.cell? ⟨gb173, 2, none⟩ = some (.int .i64 a0_2) := (yG BK173.out 2).trans rfl
     have hcz13_3 : w5.cell? ⟨gb173, 3, none⟩ = some (.bool a0_3) := (yG BK173.out 3).trans rfl
     have hfz13_0 := yR BK173.out 0
     have hfz13_1 := yR BK173.out 1
     have hfz13_2 := yR BK173.out 2
     have hfz13_3 := yR BK173.out 3
     have hcz14_0 : w5.cell? ⟨gb174, 0, none⟩ = some (.slice A1_0 l1_0.length c1_0) := (yG BK174.out 0).trans rfl
     have hcz14_1 : w5.cell? ⟨gb174, 1, none⟩ = some (.slice A1_1 l1_1.length c1_1) := (yG BK174.out 1).trans rfl
     have hcz14_2 : w5.cell? ⟨gb174, 2, none⟩ = some (.int .i64 a1_2) := (yG BK174.out 2).trans rfl
     have hcz14_3 : w5.cell? ⟨gb174, 3, none⟩ = some (.bool a1_3) := (yG BK174.out 3).trans rfl
     have hfz14_0 := yR BK174.out 0
     have hfz14_1 := yR BK174.out 1
     have hfz14_2 := yR BK174.out 2
     have hfz14_3 := yR BK174.out 3
     go_wp2
     repeat (go_quiet (fail); try go_wp2)
     go_meet
     case rel => exact ⟨_, (true), (by first | rfl | (simp; done) | (simp [*]; done)), H', ⟨by first | omega | exact Nat.le_refl _⟩, ⟨by (with_reducible repeat (first | refine yM ?_ _ | refine yO ?_ | refine yN ?_ _)); exact BK173.out⟩, ⟨by (with_reducible repeat (first | refine yM ?_ _ | refine yO ?_ | refine yN ?_ _)); exact BK174.out⟩, ⟨by repeat (first | (with_reducible first | exact HB.out | apply yQ | apply yL | apply yP | refine yE ?_ GE173.out | refine yE ?_ GE174.out) | exact HB.out)⟩⟩
   ·
    rw [if_neg c7] at H
    have c7b0 : ((l0_1.length : Int) == (l1_1.length : Int)) = false := beq_eq_false_iff_ne.mpr c7
    have c7b1 : ((l0_1.length : Int) != (l1_1.length : Int)) = true := bne_iff_ne.mpr c7
    have c7b2 : (l0_1.length == l1_1.length) = false := by first | simpa using c7 | (simp at c7 ⊢; omega)
    have H' := yD H
    clear H; have hnb15 := NB173_174.out; have hnc15 := NB174_173.out
    have hcz16_0 : w5.cell? ⟨gb173, 0, none⟩ = some (.slice A0_0 l0_0.length c0_0) := (yG BK173.out 0).trans rfl
    have hcz16_1 : w5.cell? ⟨gb173, 1, none⟩ = some (.slice A0_1 l0_1.length c0_1) := (yG BK173.out 1).trans rfl
    have hcz16_2 : w5.cell? ⟨gb173, 2, none⟩ = some (.int .i64 a0_2) := (yG BK173.out 2).trans rfl
    have hcz16_3 : w5.cell? ⟨gb173, 3, none⟩ = some (.bool a0_3) := (yG BK173.out 3).trans rfl
    have hfz16_0 := yR BK173.out 0
    have hfz16_1 := yR BK173.out 1
    have hfz16_2 := yR BK173.out 2
    have hfz16_3 := yR BK173.out 3
    have hcz17_0 : w5.cell? ⟨gb174, 0, none⟩ = some (.slice A1_0 l1_0.length c1_0) := (yG BK174.out 0).trans rfl
    have hcz17_1 : w5.cell? ⟨gb174, 1, none⟩ = some (.slice A1_1 l1_1.length c1_1) := (yG BK174.out 1).trans rfl
    have hcz17_2 : w5.cell? ⟨gb174, 2, none⟩ = some (.int .i64 a1_2) := (yG BK174.out 2).trans rfl
    have hcz17_3 : w5.cell? ⟨gb174, 3, none⟩ = some (.bool a1_3) := (yG BK174.out 3).trans rfl
    have hfz17_0 := yR BK174.out 0
    have hfz17_1 := yR BK174.out 1
    have hfz17_2 := yR BK174.out 2
    have hfz17_3 := yR BK174.out 3
    go_wp2
    repeat (go_quiet (fail); try go_wp2)
    go_meet
    case rel => exact ⟨_, (true), (by first | rfl | (simp; done) | (simp [*]; done)), H', ⟨by first | omega | exact Nat.le_refl _⟩, ⟨by (with_reducible repeat (first | refine yM ?_ _ | refine yO ?_ | refine yN ?_ _)); exact BK173.out⟩, ⟨by (with_reducible repeat (first | refine yM ?_ _ | refine yO ?_ | refine yN ?_ _)); exact BK174.out⟩, ⟨by repeat (first | (with_reducible first | exact HB.out | apply yQ | apply yL | apply yP | refine yE ?_ GE173.out | refine yE ?_ GE174.out) | exact HB.out)⟩⟩
  ·
   rw [if_neg c6] at H
   have c6b0 : ((l0_0.length : Int) == (l1_0.length : Int)) = false := beq_eq_false_iff_ne.mpr c6
   have c6b1 : ((l0_0.length : Int) != (l1_0.length : Int)) = true := bne_iff_ne.mpr c6
   have c6b2 : (l0_0.length == l1_0.length) = false := by first | simpa using c6 | (simp at c6 ⊢; omega)
   (first | rw [c6b0] | (simp only [i64_w, i32_w]; rw [c6b0]) | (simp only [bne] at c6b0; rw [c6b0]) | skip)
   have H' := yD H
   clear H; have hnb18 := NB173_174.out; have hnc18 := NB174_173.out
   have hcz19_0 : w5.cell? ⟨gb173, 0, none⟩ = some (.slice A0_0 l0_0.length c0_0) := (yG BK173.out 0).trans rfl
   have hcz19_1 : w5.cell? ⟨gb173, 1, none⟩ = some (.slice A0_1 l0_1.length c0_1) := (yG BK173.out 1).trans rfl
   have hcz19_2 : w5.cell? ⟨gb173, 2, none⟩ = some (.int .i64 a0_2) := (yG BK173.out 2).trans rfl
   have hcz19_3 : w5.cell? ⟨gb173, 3, none⟩ = some (.bool a0_3) := (yG BK173.out 3).trans rfl
   have hfz19_0 := yR BK173.out 0
   have hfz19_1 := yR BK173.out 1
   have hfz19_2 := yR BK173.out 2
   have hfz19_3 := yR BK173.out 3
   have hcz20_0 : w5.cell? ⟨gb174, 0, none⟩ = some (.slice A1_0 l1_0.length c1_0) := (yG BK174.out 0).trans rfl
   have hcz20_1 : w5.cell? ⟨gb174, 1, none⟩ = some (.slice A1_1 l1_1.length c1_1) := (yG BK174.out 1).trans rfl
   have hcz20_2 : w5.cell? ⟨gb174, 2, none⟩ = some (.int .i64 a1_2) := (yG BK174.out 2).trans rfl
   have hcz20_3 : w5.cell? ⟨gb174, 3, none⟩ = some (.bool a1_3) := (yG BK174.out 3).trans rfl
   have hfz20_0 := yR BK174.out 0
   have hfz20_1 := yR BK174.out 1
   have hfz20_2 := yR BK174.out 2
   have hfz20_3 := yR BK174.out 3
   go_wp2
   repeat (go_quiet (fail); try go_wp2)
   go_meet
   case rel => exact ⟨_, (true), (by first | rfl | (simp; done) | (simp [*]; done)), H', ⟨by first | omega | exact Nat.le_refl _⟩, ⟨by (with_reducible repeat (first | refine yM ?_ _ | refine yO ?_ | refine yN ?_ _)); exact BK173.out⟩, ⟨by (with_reducible repeat (first | refine yM ?_ _ | refine yO ?_ | refine yN ?_ _)); exact BK174.out⟩, ⟨by repeat (first | (with_reducible first | exact HB.out | apply yQ | apply yL | apply yP | refine yE ?_ GE173.out | refine yE ?_ GE174.out) | exact HB.out)⟩⟩
 case rest =>
  clear HC3; try clear c1; try clear p2; try clear c6; try clear c6b0; try clear c6b1; try clear c6b2; try clear c7; try clear c7b0; try clear c7b1; try clear c7b2; try clear c8; try clear c8b0; try clear c8b1; try clear c9; try clear c12; try clear c15; try clear c18; try clear hcz10_0; try clear hcz10_1; try clear hcz10_2; try clear hcz10_3; try clear hcz11_0; try clear hcz11_1; try clear hcz11_2; try clear hcz11_3; try clear hcz13_0; try clear hcz13_1; try clear hcz13_2; try clear hcz13_3; try clear hcz14_0; try clear hcz14_1; try clear hcz14_2; try clear hcz14_3; try clear hcz16_0; try clear hcz16_1; try clear hcz16_2; try clear hcz16_3; try clear hcz17_0; try clear hcz17_1; try clear hcz17_2; try clear hcz17_3; try clear hcz19_0; try clear hcz19_1; try clear hcz19_2; try clear hcz19_3; try clear hcz20_0; try clear hcz20_1; try clear hcz20_2; try clear hcz20_3; try clear hfz10_0; try clear hfz10_1; try clear hfz10_2; try clear hfz10_3; try clear hfz11_0; try clear hfz11_1; try clear hfz11_2; try clear hfz11_3; try clear hfz13_0; try clear hfz13_1; try clear hfz13_2; try clear hfz13_3; try clear hfz14_0; try clear hfz14_1; try clear hfz14_2; try clear hfz14_3; try clear hfz16_0; try clear hfz16_1; try clear hfz16_2; try clear hfz16_3; try clear hfz17_0; try clear hfz17_1; try clear hfz17_2; try clear hfz17_3; try clear hfz19_0; try clear hfz19_1; try clear hfz19_2; try clear hfz19_3; try clear hfz20_0; try clear hfz20_1; try clear hfz20_2; try clear hfz20_3
  obtain ⟨kq, x36_2, rfl, HA, HJ2, BK173, BK174, HB⟩ := hcut
  cases kq with
  | zero => exact absurd HA.out (by simp [spec_SameDisk.j0])
  | succ kj2 =>
   have H := HA.out; clear HA
   simp only [spec_SameDisk.j0] at H
   by_cases c21 : x36_2 = true
   ·
    subst c21
    have H1 : (some false) = some r := by rw [if_pos rfl] at H; exact H
    clear H; have H := H1; clear H1; obtain rfl := Option.some.inj H
    go_wp2
    repeat (go_quiet (fail); try go_wp2)
    go_ret
    exact ⟨by first | rfl | (simp <;> rfl) | (simp [*] <;> rfl), by repeat (first | (with_reducible first | exact HB.out | apply yQ | apply yL | apply yP | refine yE ?_ GE173.out | refine yE ?_ GE174.out) | exact HB.out)⟩
   ·
    replace c21 := Bool.eq_false_iff.mpr c21
    subst c21
    have H1 : (spec_SameDisk.l0 kj2 0 l0_0 l0_1 a0_2 a0_3 l1_0 l1_1 a1_2 a1_3) = some r := by rw [if_neg (show ¬ (false = true) by decide)] at H; exact H
    clear H; have H := H1; clear H1
    have H' := yD H
    clear H
    go_wp2
    repeat (go_quiet (fail); try go_wp2)
    go_loopg [5] kj2 (fun kq v5 w' => ∃ (x5_2 : Int), v5 = .int .i64 x5_2 ∧ Aside0 (spec_SameDisk.l0 kq x5_2 l0_0 l0_1 a0_2 a0_3 l1_0 l1_1 a1_2 a1_3 = some r) ∧ Aside0 (kq ≤ kj2) ∧ Aside0 (w'.heap[gb173]? = some (.cells #[(.slice A0_0 l0_0.length c0_0), (.slice A0_1 l0_1.length c0_1), .int .i64 a0_2, .bool a0_3] 36 (0, 0))) ∧ Aside0 (w'.heap[gb174]? = some (.cells #[(.slice A1_0 l1_0.length c1_0), (.slice A1_1 l1_1.length c1_1), .int .i64 a1_2, .bool a1_3] 36 (0, 0))) ∧ Aside0 (Below w.heap.size w w'))
    case atStart => exact ⟨(0), (by first | rfl | (simp; done) | (simp [*]; done)), H', ⟨Nat.le_refl _⟩, ⟨by (with_reducible repeat (first | refine yM ?_ _ | refine yO ?_ | refine yN ?_ _)); exact BK173.out⟩, ⟨by (with_reducible repeat (first | refine yM ?_ _ | refine yO ?_ | refine yN ?_ _)); exact BK174.out⟩, ⟨by repeat (first | (with_reducible first | exact HB.out | apply yQ | apply yL | apply yP | refine yE ?_ GE173.out | refine yE ?_ GE174.out) | exact HB.out)⟩⟩
    case round =>
     clear H'
     try clear c1; try clear c2; try clear p2; try clear c6; try clear c6b0; try clear c6b1; try clear c6b2; try clear c7; try clear c7b0; try clear c7b1; try clear c7b2; try clear c8; try clear c8b0; try clear c8b1; try clear c9; try clear c12; try clear c15; try clear c18; try clear c21; try clear hcz10_0; try clear hcz10_1; try clear hcz10_2; try clear hcz10_3; try clear hcz11_0; try clear hcz11_1; try clear hcz11_2; try clear hcz11_3; try clear hcz13_0; try clear hcz13_1; try clear hcz13_2; try clear hcz13_3; try clear hcz14_0; try clear hcz14_1; try clear hcz14_2; try clear hcz14_3; try clear hcz16_0; try clear hcz16_1; try clear hcz16_2; try clear hcz16_3; try clear hcz17_0; try clear hcz17_1; try clear hcz17_2; try clear hcz17_3; try clear hcz19_0; try clear hcz19_1; try clear hcz19_2; try clear hcz19_3; try clear hcz20_0; try clear hcz20_1; try clear hcz20_2; try clear hcz20_3; try clear hfz10_0; try clear hfz10_1; try clear hfz10_2; try clear hfz10_3; try clear hfz11_0; try clear hfz11_1; try clear hfz11_2; try clear hfz11_3; try clear hfz13_0; try clear hfz13_1; try clear hfz13_2; try clear hfz13_3; try clear hfz14_0; try clear hfz14_1; try clear hfz14_2; try clear hfz14_3; try clear hfz16_0; try clear hfz16_1; try clear hfz16_2; try clear hfz16_3; try clear hfz17_0; try clear hfz17_1; try clear hfz17_2; try clear hfz17_3; try clear hfz19_0; try clear hfz19_1; try clear hfz19_2; try clear hfz19_3; try clear hfz20_0; try clear hfz20_1; try clear hfz20_2; try clear hfz20_3; try clear p2
     obtain ⟨x5_2, rfl, HA, HK2, BK173, BK174, HB⟩ := hrel
     cases gk with
     | zero => exact absurd HA.out (by simp [spec_SameDisk.l0])
     | succ k2 =>
      have H := HA.out; clear HA
      simp only [spec_SameDisk.l0] at H
      by_cases c22 : x5_2 < (l0_0.length : Int)
      ·
       rw [if_pos c22] at H; have c22b0 : decide (x5_2 < (l0_0.length : Int)) = true := zR c22; clear c22
       by_cases c23 : 0 ≤ x5_2
       ·
        rw [if_pos c23] at H; have c23b0 : decide (0 ≤ x5_2) = true := zR c23; clear c23
        by_cases c24 : x5_2 < (l1_0.length : Int)
        ·
         rw [if_pos c24] at H; have c24b0 : decide (x5_2 < (l1_0.length : Int)) = true := zR c24; clear c24
         by_cases c25 : (rdOf ByteArray.empty l0_0 x5_2).toList = (rdOf ByteArray.empty l1_0 x5_2).toList
         ·
          rw [if_pos c25] at H
          have c25b0 : ((rdOf ByteArray.empty l0_0 x5_2).toList == (rdOf ByteArray.empty l1_0 x5_2).toList) = true := beq_iff_eq.mpr c25
          have c25b1 : ((rdOf ByteArray.empty l0_0 x5_2).toList != (rdOf ByteArray.empty l1_0 x5_2).toList) = false := bne_eq_false_iff_eq.mpr c25
          clear c25
          have H' := yD H
          clear H; have hnb26 := NB173_174.out; have hnc26 := NB174_173.out
          have hcz27_0 : wr.cell? ⟨gb173, 0, none⟩ = some (.slice A0_0 l0_0.length c0_0) := (yG BK173.out 0).trans rfl
          have hcz27_1 : wr.cell? ⟨gb173, 1, none⟩ = some (.slice A0_1 l0_1.length c0_1) := (yG BK173.out 1).trans rfl
          have hcz27_2 : wr.cell? ⟨gb173, 2, none⟩ = some (.int .i64 a0_2) := (yG BK173.out 2).trans rfl
          have hcz27_3 : wr.cell? ⟨gb173, 3, none⟩ = some (.bool a0_3) := (yG BK173.out 3).trans rfl
          have hfz27_0 := yR BK173.out 0
          have hfz27_1 := yR BK173.out 1
          have hfz27_2 := yR BK173.out 2
          have hfz27_3 := yR BK173.out 3
          have p175 : 0 ≤ (x5_2 : Int) := zP (by assumption)
          have q175 : x5_2 < (l0_0.length : Int) := zP (by assumption)
          obtain ⟨ad175, e175, hx175_0⟩ := Kd.at_string HR0_0.out x5_2 p175 q175
          cases e175
          replace hx175_0 := (HB.out.cell (zQ w _ hx175_0)).trans hx175_0
          replace p175 := eq_true p175; replace q175 := eq_true q175
          have hcz28_0 : wr.cell? ⟨gb174, 0, none⟩ = some (.slice A1_0 l1_0.length c1_0) := (yG BK174.out 0).trans rfl
          have hcz28_1 : wr.cell? ⟨gb174, 1, none⟩ = some (.slice A1_1 l1_1.length c1_1) := (yG BK174.out 1).trans rfl
          have hcz28_2 : wr.cell? ⟨gb174, 2, none⟩ = some (.int .i64 a1_2) := (yG BK174.out 2).trans rfl
          have hcz28_3 : wr.cell? ⟨gb174, 3, none⟩ = some (.bool a1_3) := (yG BK174.out 3).trans rfl
          have hfz28_0 := yR BK174.out 0
          have hfz28_1 := yR BK174.out 1
          have hfz28_2 := yR BK174.out 2
          have hfz28_3 := yR BK174.out 3
          have p176 : 0 ≤ (x5_2 : Int) := zP (by assumption)
          have q176 : x5_2 < (l1_0.length : Int) := zP (by assumption)
          obtain ⟨ad176, e176, hx176_0⟩ := Kd.at_string HR1_0.out x5_2 p176 q176
          cases e176
          replace hx176_0 := (HB.out.cell (zQ w _ hx176_0)).trans hx176_0
          replace p176 := eq_true p176; replace q176 := eq_true q176
          go_wp2
          repeat (go_quiet (fail); try go_wp2)
          go_roundg k2
          case measure => have := HJ2.out; have := HK2.out; omega
          case rel => exact ⟨(wrap64 (x5_2 + 1)), (by first | rfl | (simp; done) | (simp [*]; done)), H', ⟨by have := HJ2.out; have := HK2.out; omega⟩, ⟨by (with_reducible repeat (first | refine yM ?_ _ | refine yO ?_ | refine yN ?_ _)); exact BK173.out⟩, ⟨by (with_reducible repeat (first | refine yM ?_ _ | refine yO ?_ | refine yN ?_ _)); exact BK174.out⟩, ⟨by repeat (first | (with_reducible first | exact HB.out | apply yQ | apply yL | apply yP | refine yE ?_ GE173.out | refine yE ?_ GE174.out) | exact HB.out)⟩⟩
         ·
          rw [if_neg c25] at H
          have c25b0 : ((rdOf ByteArray.empty l0_0 x5_2).toList == (rdOf ByteArray.empty l1_0 x5_2).toList) = false := beq_eq_false_iff_ne.mpr c25
          have c25b1 : ((rdOf ByteArray.empty l0_0 x5_2).toList != (rdOf ByteArray.empty l1_0 x5_2).toList) = true := bne_iff_ne.mpr c25
          obtain rfl := Option.some.inj H; have hnb29 := NB173_174.out; have hnc29 := NB174_173.out
          have hcz30_0 : wr.cell? ⟨gb173, 0, none⟩ = some (.slice A0_0 l0_0.length c0_0) := (yG BK173.out 0).trans rfl
          have hcz30_1 : wr.cell? ⟨gb173, 1, none⟩ = some (.slice A0_1 l0_1.length c0_1) := (yG BK173.out 1).trans rfl
          have hcz30_2 : wr.cell? ⟨gb173, 2, none⟩ = some (.int .i64 a0_2) := (yG BK173.out 2).trans rfl
          have hcz30_3 : wr.cell? ⟨gb173, 3, none⟩ = some (.bool a0_3) := (yG BK173.out 3).trans rfl
          have hfz30_0 := yR BK173.out 0
          have hfz30_1 := yR BK173.out 1
          have hfz30_2 := yR BK173.out 2
          have hfz30_3 := yR BK173.out 3
          have p175 : 0 ≤ (x5_2 : Int) := zP (by assumption)
          have q175 : x5_2 < (l0_0.length : Int) := zP (by assumption)
          obtain ⟨ad175, e175, hx175_0⟩ := Kd.at_string HR0_0.out x5_2 p175 q175
          cases e175
          replace hx175_0 := (HB.out.cell (zQ w _ hx175_0)).trans hx175_0
          replace p175 := eq_true p175; replace q175 := eq_true q175
          have hcz31_0 : wr.cell? ⟨gb174, 0, none⟩ = some (.slice A1_0 l1_0.length c1_0) := (yG BK174.out 0).trans rfl
          have hcz31_1 : wr.cell? ⟨gb174, 1, none⟩ = some (.slice A1_1 l1_1.length c1_1) := (yG BK174.out 1).trans rfl
          have hcz31_2 : wr.cell? ⟨gb174, 2, none⟩ = some (.int .i64 a1_2) := (yG BK174.out 2).trans rfl
          have hcz31_3 : wr.cell? ⟨gb174, 3, none⟩ = some (.bool a1_3) := (yG BK174.out 3).trans rfl
          have hfz31_0 := yR BK174.out 0
          have hfz31_1 := yR BK174.out 1
          have hfz31_2 := yR BK174.out 2
          have hfz31_3 := yR BK174.out 3
          have p176 : 0 ≤ (x5_2 : Int) := zP (by assumption)
          have q176 : x5_2 < (l1_0.length : Int) := zP (by assumption)
          obtain ⟨ad176, e176, hx176_0⟩ := Kd.at_string HR1_0.out x5_2 p176 q176
          cases e176
          replace hx176_0 := (HB.out.cell (zQ w _ hx176_0)).trans hx176_0
          replace p176 := eq_true p176; replace q176 := eq_true q176
          go_wp2
          repeat (go_quiet (fail); try go_wp2)
          go_ret
          exact ⟨by first | rfl | (simp <;> rfl) | (simp [*] <;> rfl), by repeat (first | (with_reducible first | exact HB.out | apply yQ | apply yL | apply yP | refine yE ?_ GE173.out | refine yE ?_ GE174.out) | exact HB.out)⟩
        ·
         rw [if_neg c24] at H
         exact absurd H (by simp)
       ·
        rw [if_neg c23] at H
        exact absurd H (by simp)
      ·
       rw [if_neg c22] at H; have c22b0 : decide (x5_2 < (l0_0.length : Int)) = false := zS c22; clear c22
       have H' := yD H
       clear H; have hnb32 := NB173_174.out; have hnc32 := NB174_173.out
       have hcz33_0 : wr.cell? ⟨gb173, 0, none⟩ = some (.slice A0_0 l0_0.length c0_0) := (yG BK173.out 0).trans rfl
       have hcz33_1 : wr.cell? ⟨gb173, 1, none⟩ = some (.slice A0_1 l0_1.length c0_1) := (yG BK173.out 1).trans rfl
       have hcz33_2 : wr.cell? ⟨gb173, 2, none⟩ = some (.int .i64 a0_2) := (yG BK173.out 2).trans rfl
       have hcz33_3 : wr.cell? ⟨gb173, 3, none⟩ = some (.bool a0_3) := (yG BK173.out 3).trans rfl
       have hfz33_0 := yR BK173.out 0
       have hfz33_1 := yR BK173.out 1
       have hfz33_2 := yR BK173.out 2
       have hfz33_3 := yR BK173.out 3
       go_wp2
       repeat (go_quiet (fail); try go_wp2)
       go_loopg [6] k2 (fun kq v6 w' => ∃ (x6_3 : Int), v6 = .int .i64 x6_3 ∧ Aside0 (spec_SameDisk.l1 kq x6_3 l0_0 l0_1 a0_2 a0_3 l1_0 l1_1 a1_2 a1_3 = some r) ∧ Aside0 (kq ≤ k2) ∧ Aside0 (w'.heap[gb173]? = some (.cells #[(.slice A0_0 l0_0.length c0_0), (.slice A0_1 l0_1.length c0_1), .int .i64 a0_2, .bool a0_3] 36 (0, 0))) ∧ Aside0 (w'.heap[gb174]? = some (.cells #[(.slice A1_0 l1_0.length c1_0), (.slice A1_1 l1_1.length c1_1), .int .i64 a1_2, .bool a1_3] 36 (0, 0))) ∧ Aside0 (Below w.heap.size w w'))
       case atStart => exact ⟨(0), (by first | rfl | (simp; done) | (simp [*]; done)), H', ⟨Nat.le_refl _⟩, ⟨by (with_reducible repeat (first | refine yM ?_ _ | refine yO ?_ | refine yN ?_ _)); exact BK173.out⟩, ⟨by (with_reducible repeat (first | refine yM ?_ _ | refine yO ?_ | refine yN ?_ _)); exact BK174.out⟩, ⟨by repeat (first | (with_reducible first | exact HB.out | apply yQ | apply yL | apply yP | refine yE ?_ GE173.out | refine yE ?_ GE174.out) | exact HB.out)⟩⟩
       case round =>
        clear H'
        try clear c1; try clear p1; try clear q1; try clear hx1; try clear c2; try clear p2; try clear c3; try clear c6; try clear c6b0; try clear c6b1; try clear c6b2; try clear p6; try clear c7; try clear c7b0; try clear c7b1; try clear c7b2; try clear c8; try clear c8b0; try clear c8b1; try clear c9; try clear c12; try clear c15; try clear p17; try clear q17; try clear hx17; try clear c18; try clear c21; try clear c22; try clear c22b0; try clear c23; try clear c23b0; try clear c24; try clear c24b0; try clear c25; try clear c25b0; try clear c25b1; try clear c26; try clear c29; try clear c32; try clear hcz10_0; try clear hcz10_1; try clear hcz10_2; try clear hcz10_3; try clear hcz11_0; try clear hcz11_1; try clear hcz11_2; try clear hcz11_3; try clear hcz13_0; try clear hcz13_1; try clear hcz13_2; try clear hcz13_3; try clear hcz14_0; try clear hcz14_1; try clear hcz14_2; try clear hcz14_3; try clear hcz16_0; try clear hcz16_1; try clear hcz16_2; try clear hcz16_3; try clear hcz17_0; try clear hcz17_1; try clear hcz17_2; try clear hcz17_3; try clear hcz19_0; try clear hcz19_1; try clear hcz19_2; try clear hcz19_3; try clear hcz20_0; try clear hcz20_1; try clear hcz20_2; try clear hcz20_3; try clear hcz27_0; try clear hcz27_1; try clear hcz27_2; try clear hcz27_3; try clear hcz28_0; try clear hcz28_1; try clear hcz28_2; try clear hcz28_3; try clear hcz30_0; try clear hcz30_1; try clear hcz30_2; try clear hcz30_3; try clear hcz31_0; try clear hcz31_1; try clear hcz31_2; try clear hcz31_3; try clear hcz33_0; try clear hcz33_1; try clear hcz33_2; try clear hcz33_3; try clear hfz10_0; try clear hfz10_1; try clear hfz10_2; try clear hfz10_3; try clear hfz11_0; try clear hfz11_1; try clear hfz11_2; try clear hfz11_3; try clear hfz13_0; try clear hfz13_1; try clear hfz13_2; try clear hfz13_3; try clear hfz14_0; try clear hfz14_1; try clear hfz14_2; try clear hfz14_3; try clear hfz16_0; try clear hfz16_1; try clear hfz16_2; try clear hfz16_3; try clear hfz17_0; try clear hfz17_1; try clear hfz17_2; try clear hfz17_3; try clear hfz19_0; try clear hfz19_1; try clear hfz19_2; try clear hfz19_3; try clear hfz20_0; try clear hfz20_1; try clear hfz20_2; try clear hfz20_3; try clear hfz27_0; try clear hfz27_1; try clear hfz27_2; try clear hfz27_3; try clear hfz28_0; try clear hfz28_1; try clear hfz28_2; try clear hfz28_3; try clear hfz30_0; try clear hfz30_1; try clear hfz30_2; try clear hfz30_3; try clear hfz31_0; try clear hfz31_1; try clear hfz31_2; try clear hfz31_3; try clear hfz33_0; try clear hfz33_1; try clear hfz33_2; try clear hfz33_3; try clear hx175_0; try clear hx176_0; try clear p175; try clear p176; try clear p2; try clear q175; try clear q176
        obtain ⟨x6_3, rfl, HA, HK3, BK173, BK174, HB⟩ := hrel
        cases gk with
        | zero => exact absurd HA.out (by simp [spec_SameDisk.l1])
        | succ k3 =>
         have H := HA.out; clear HA
         simp only [spec_SameDisk.l1] at H
         by_cases c34 : x6_3 < (l0_1.length : Int)
         ·
          rw [if_pos c34] at H; have c34b0 : decide (x6_3 < (l0_1.length : Int)) = true := zR c34; clear c34
          by_cases c35 : 0 ≤ x6_3
          ·
           rw [if_pos c35] at H; have c35b0 : decide (0 ≤ x6_3) = true := zR c35; clear c35
           by_cases c36 : x6_3 < (l1_1.length : Int)
           ·
            rw [if_pos c36] at H; have c36b0 : decide (x6_3 < (l1_1.length : Int)) = true := zR c36; clear c36
            by_cases c37 : (!(((rd_T131 l0_1 x6_3).f0) == ((rd_T131 l1_1 x6_3).f0)) || (!((((rd_T131 l0_1 x6_3).f1).toList) == (((rd_T131 l1_1 x6_3).f1).toList)))) = true
            ·
             rw [if_pos c37] at H
             have c37b0 : (!(((rd_T131 l0_1 x6_3).f0) == ((rd_T131 l1_1 x6_3).f0)) || (!((((rd_T131 l0_1 x6_3).f1).toList) == (((rd_T131 l1_1 x6_3).f1).toList)))) = true := c37
             clear c37; obtain rfl := Option.some.inj H; have hnb38 := NB173_174.out; have hnc38 := NB174_173.out
             have hcz39_0 : wr.cell? ⟨gb173, 0, none⟩ = some (.slice A0_0 l0_0.length c0_0) := (yG BK173.out 0).trans rfl
             have hcz39_1 : wr.cell? ⟨gb173, 1, none⟩ = some (.slice A0_1 l0_1.length c0_1) := (yG BK173.out 1).trans rfl
             have hcz39_2 : wr.cell? ⟨gb173, 2, none⟩ = some (.int .i64 a0_2) := (yG BK173.out 2).trans rfl
             have hcz39_3 : wr.cell? ⟨gb173, 3, none⟩ = some (.bool a0_3) := (yG BK173.out 3).trans rfl
             have hfz39_0 := yR BK173.out 0
             have hfz39_1 := yR BK173.out 1
             have hfz39_2 := yR BK173.out 2
             have hfz39_3 := yR BK173.out 3
             have p177 : 0 ≤ (x6_3 : Int) := zP (by assumption)
             have q177 : x6_3 < (l0_1.length : Int) := zP (by assumption)
             obtain ⟨ad177, e177, hx177_0, hx177_1⟩ := at_T131 HR0_1.out x6_3 p177 q177
             cases e177
             replace hx177_0 := (HB.out.cell (zQ w _ hx177_0)).trans hx177_0
             replace hx177_1 := (HB.out.cell (zQ w _ hx177_1)).trans hx177_1
             replace p177 := eq_true p177; replace q177 := eq_true q177
             have hcz40_0 : wr.cell? ⟨gb174, 0, none⟩ = some (.slice A1_0 l1_0.length c1_0) := (yG BK174.out 0).trans rfl
             have hcz40_1 : wr.cell? ⟨gb174, 1, none⟩ = some (.slice A1_1 l1_1.length c1_1) := (yG BK174.out 1).trans rfl
             have hcz40_2 : wr.cell? ⟨gb174, 2, none⟩ = some (.int .i64 a1_2) := (yG BK174.out 2).trans rfl
             have hcz40_3 : wr.cell? ⟨gb174, 3, none⟩ = some (.bool a1_3) := (yG BK174.out 3).trans rfl
             have hfz40_0 := yR BK174.out 0
             have hfz40_1 := yR BK174.out 1
             have hfz40_2 := yR BK174.out 2
             have hfz40_3 := yR BK174.out 3
             have p178 : 0 ≤ (x6_3 : Int) := zP (by assumption)
             have q178 : x6_3 < (l1_1.length : Int) := zP (by assumption)
             obtain ⟨ad178, e178, hx178_0, hx178_1⟩ := at_T131 HR1_1.out x6_3 p178 q178
             cases e178
             replace hx178_0 := (HB.out.cell (zQ w _ hx178_0)).trans hx178_0
             replace hx178_1 := (HB.out.cell (zQ w _ hx178_1)).trans hx178_1
             replace p178 := eq_true p178; replace q178 := eq_true q178
             go_wp2
             repeat (go_quiet (fail); try go_wp2)
             go_ret
             exact ⟨by first | rfl | (simp <;> rfl) | (simp [*] <;> rfl), by repeat (first | (with_reducible first | exact HB.out | apply yQ | apply yL | apply yP | refine yE ?_ GE173.out | refine yE ?_ GE174.out) | exact HB.out)⟩
            ·
             rw [if_neg c37] at H
             have c37b0 : (!(((rd_T131 l0_1 x6_3).f0) == ((rd_T131 l1_1 x6_3).f0)) || (!((((rd_T131 l0_1 x6_3).f1).toList) == (((rd_T131 l1_1 x6_3).f1).toList)))) = false := by simpa using c37
             clear c37
             have H' := yD H
             clear H; have hnb41 := NB173_174.out; have hnc41 := NB174_173.out
             have hcz42_0 : wr.cell? ⟨gb173, 0, none⟩ = some (.slice A0_0 l0_0.length c0_0) := (yG BK173.out 0).trans rfl
             have hcz42_1 : wr.cell? ⟨gb173, 1, none⟩ = some (.slice A0_1 l0_1.length c0_1) := (yG BK173.out 1).trans rfl
             have hcz42_2 : wr.cell? ⟨gb173, 2, none⟩ = some (.int .i64 a0_2) := (yG BK173.out 2).trans rfl
             have hcz42_3 : wr.cell? ⟨gb173, 3, none⟩ = some (.bool a0_3) := (yG BK173.out 3).trans rfl
             have hfz42_0 := yR BK173.out 0
             have hfz42_1 := yR BK173.out 1
             have hfz42_2 := yR BK173.out 2
             have hfz42_3 := yR BK173.out 3
             have p177 : 0 ≤ (x6_3 : Int) := zP (by assumption)
             have q177 : x6_3 < (l0_1.length : Int) := zP (by assumption)
             obtain ⟨ad177, e177, hx177_0, hx177_1⟩ := at_T131 HR0_1.out x6_3 p177 q177
             cases e177
             replace hx177_0 := (HB.out.cell (zQ w _ hx177_0)).trans hx177_0
             replace hx177_1 := (HB.out.cell (zQ w _ hx177_1)).trans hx177_1
             replace p177 := eq_true p177; replace q177 := eq_true q177
             have hcz43_0 : wr.cell? ⟨gb174, 0, none⟩ = some (.slice A1_0 l1_0.length c1_0) := (yG BK174.out 0).trans rfl
             have hcz43_1 : wr.cell? ⟨gb174, 1, none⟩ = some (.slice A1_1 l1_1.length c1_1) := (yG BK174.out 1).trans rfl
             have hcz43_2 : wr.cell? ⟨gb174, 2, none⟩ = some (.int .i64 a1_2) := (yG BK174.out 2).trans rfl
             have hcz43_3 : wr.cell? ⟨gb174, 3, none⟩ = some (.bool a1_3) := (yG BK174.out 3).trans rfl
             have hfz43_0 := yR BK174.out 0
             have hfz43_1 := yR BK174.out 1
             have hfz43_2 := yR BK174.out 2
             have hfz43_3 := yR BK174.out 3
             have p178 : 0 ≤ (x6_3 : Int) := zP (by assumption)
             have q178 : x6_3 < (l1_1.length : Int) := zP (by assumption)
             obtain ⟨ad178, e178, hx178_0, hx178_1⟩ := at_T131 HR1_1.out x6_3 p178 q178
             cases e178
             replace hx178_0 := (HB.out.cell (zQ w _ hx178_0)).trans hx178_0
             replace hx178_1 := (HB.out.cell (zQ w _ hx178_1)).trans hx178_1
             replace p178 := eq_true p178; replace q178 := eq_true q178
             go_wp2
             repeat (go_quiet (fail); try go_wp2)
             go_roundg k3
             case measure => have := HJ2.out; have := HK2.out; have := HK3.out; omega
             case rel => exact ⟨(wrap64 (x6_3 + 1)), (by first | rfl | (simp; done) | (simp [*]; done)), H', ⟨by have := HJ2.out; have := HK2.out; have := HK3.out; omega⟩, ⟨by (with_reducible repeat (first | refine yM ?_ _ | refine yO ?_ | refine yN ?_ _)); exact BK173.out⟩, ⟨by (with_reducible repeat (first | refine yM ?_ _ | refine yO ?_ | refine yN ?_ _)); exact BK174.out⟩, ⟨by repeat (first | (with_reducible first | exact HB.out | apply yQ | apply yL | apply yP | refine yE ?_ GE173.out | refine yE ?_ GE174.out) | exact HB.out)⟩⟩
           ·
            rw [if_neg c36] at H
            exact absurd H (by simp)
          ·
           rw [if_neg c35] at H
           exact absurd H (by simp)
         ·
          rw [if_neg c34] at H; have c34b0 : decide (x6_3 < (l0_1.length : Int)) = false := zS c34; clear c34; obtain rfl := Option.some.inj H; have hnb44 := NB173_174.out; have hnc44 := NB174_173.out
          have hcz45_0 : wr.cell? ⟨gb173, 0, none⟩ = some (.slice A0_0 l0_0.length c0_0) := (yG BK173.out 0).trans rfl
          have hcz45_1 : wr.cell? ⟨gb173, 1, none⟩ = some (.slice A0_1 l0_1.length c0_1) := (yG BK173.out 1).trans rfl
          have hcz45_2 : wr.cell? ⟨gb173, 2, none⟩ = some (.int .i64 a0_2) := (yG BK173.out 2).trans rfl
          have hcz45_3 : wr.cell? ⟨gb173, 3, none⟩ = some (.bool a0_3) := (yG BK173.out 3).trans rfl
          have hfz45_0 := yR BK173.out 0
          have hfz45_1 := yR BK173.out 1
          have hfz45_2 := yR BK173.out 2
          have hfz45_3 := yR BK173.out 3
          go_wp2
          repeat (go_quiet (fail); try go_wp2)
          go_ret
          exact ⟨by first | rfl | (simp <;> rfl) | (simp [*] <;> rfl), by repeat (first | (with_reducible first | exact HB.out | apply yQ | apply yL | apply yP | refine yE ?_ GE173.out | refine yE ?_ GE174.out) | exact HB.out)⟩

/-! ### spec_l12SamePages: function 93 -/
def spec_l12SamePages.l0 : Nat → List (S119) → List (S119) → Int → Option (Bool)
 | 0, _, _, _ => none
 | k + 1, x0, x1, x5 => if x5 < (x0.length : Int) then (if 0 ≤ x5 then (if x5 < (x1.length : Int) then (if (!(((rd_T119 x0 x5).f0) == ((rd_T119 x1 x5).f0)) || (!((((rd_T119 x0 x5).f1).toList) == (((rd_T119 x1 x5).f1).toList)))) = true then (some false) else (spec_l12SamePages.l0 k x0 x1 (wrap64 (x5 + 1)))) else (none)) else (none)) else (some true)
def spec_l12SamePages.f (k : Nat) (l0 : List (S119)) (l1 : List (S119)) : Option (Bool) := if (l0.length : Int) = (l1.length : Int) then (spec_l12SamePages.l0 k l0 l1 0) else (some false)
theorem spec_l12SamePages.mono_l : ∀ k, (∀ y0 y1 y2, LeO (spec_l12SamePages.l0 k y0 y1 y2) (spec_l12SamePages.l0 (k + 1) y0 y1 y2))
 | 0 => fun _ _ _ r h => by simp [spec_l12SamePages.l0] at h
 | k + 1 => by
  have ih0 := spec_l12SamePages.mono_l k
  ·
   intro y0 y1 y2
   unfold spec_l12SamePages.l0
   repeat' first
   | (with_reducible exact ih0 _ _ _)
   | (with_reducible exact LeO.refl _)
   | (with_reducible exact LeO.none _)
   | (with_reducible refine LeO.ite ?_ ?_)
   | (with_reducible refine LeO.bind ?_ (fun _ => ?_))
   | exact ih0 _ _ _
   | exact LeO.none _
   | refine LeO.ite ?_ ?_
   | refine LeO.bind ?_ (fun _ => ?_)
theorem spec_l12SamePages.mono : ∀ a0 a1 k, LeO (spec_l12SamePages.f k a0 a1) (spec_l12SamePages.f (k + 1) a0 a1) := by
 intro a0 a1 k
 have ih0 := spec_l12SamePages.mono_l k
 unfold spec_l12SamePages.f
 repeat' first
   | (with_reducible exact ih0 _ _ _)
   | (with_reducible exact LeO.refl _)
   | (with_reducible exact LeO.none _)
   | (with_reducible refine LeO.ite ?_ ?_)
   | (with_reducible refine LeO.bind ?_ (fun _ => ?_))
   | exact ih0 _ _ _
   | exact LeO.none _
   | refine LeO.ite ?_ ?_
   | refine LeO.bind ?_ (fun _ => ?_)
set_option maxHeartbeats 8000000 in
set_option maxRecDepth 100000 in
theorem spec_l12SamePages.calls (k : Nat) (A0 : Option Addr) (c0 : Nat) (l0 : List (S119)) (A1 : Option Addr) (c1 : Nat) (l1 : List (S119)) (r : Bool) (w : World) (hr0 : Kd.C k119 w A0 l0.length l0) (hc0 : l0.length ≤ c0) (hr1 : Kd.C k119 w A1 l1.length l1) (hc1 : l1.length ≤ c1) (h : spec_l12SamePages.f k l0 l1 = some r) :
  Calls Try.prog 93 #[.slice A0 l0.length c0, .slice A1 l1.length c1] w fun e w' => e = .returned (.bool r) ∧ Drawn0 w w' := by
 have hu119 := Try.underlying119
 have HR0 := yD hr0
 have HC0 := yD hc0
 clear hr0 hc0
 have HR1 := yD hr1
 have HC1 := yD hc1
 clear hr1 hc1
 have H : (if (l0.length : Int) = (l1.length : Int) then (spec_l12SamePages.l0 k l0 l1 0) else (some false)) = some r := h
 clear h
 by_cases c3 : (l0.length : Int) = (l1.length : Int)
 ·
  rw [if_pos c3] at H
  have c3b0 : ((l0.length : Int) == (l1.length : Int)) = true := beq_iff_eq.mpr c3
  have c3b1 : ((l0.length : Int) != (l1.length : Int)) = false := bne_eq_false_iff_eq.mpr c3
  have c3b2 : (l0.length == l1.length) = true := by first | simpa using c3 | (simp at c3 ⊢; omega)
  clear c3
  have H' := yD H
  clear H; go_enter Try.func93, Try.ntmps93
  go_wp2
  repeat (go_quiet (fail); try go_wp2)
  go_loopg [5] k (fun kq v5 w' => ∃ (x5_1 : Int), v5 = .int .i64 x5_1 ∧ Aside0 (spec_l12SamePages.l0 kq l0 l1 x5_1 = some r) ∧ Aside0 (kq ≤ k) ∧ Drawn0 w w')
  case atStart => exact ⟨(0), (by first | rfl | (simp; done) | (simp [*]; done)), H', ⟨Nat.le_refl _⟩, by repeat (first | exact Drawn0.refl _ | apply Drawn0.step)⟩
  case round =>
   clear H'
   try clear c1; try clear p2; try clear c3; try clear c3b0; try clear c3b1; try clear c3b2
   obtain ⟨x5_1, rfl, HA, HK1, ⟨m1, rfl⟩⟩ := hrel
   cases gk with
   | zero => exact absurd HA.out (by simp [spec_l12SamePages.l0])
   | succ k1 =>
    have H := HA.out; clear HA
    simp only [spec_l12SamePages.l0] at H
    by_cases c4 : x5_1 < (l0.length : Int)
    ·
     rw [if_pos c4] at H; have c4b0 : decide (x5_1 < (l0.length : Int)) = true := zR c4; clear c4
     by_cases c5 : 0 ≤ x5_1
     ·
      rw [if_pos c5] at H; have c5b0 : decide (0 ≤ x5_1) = true := zR c5; clear c5
      by_cases c6 : x5_1 < (l1.length : Int)
      ·
       rw [if_pos c6] at H; have c6b0 : decide (x5_1 < (l1.length : Int)) = true := zR c6; clear c6
       by_cases c7 : (!(((rd_T119 l0 x5_1).f0) == ((rd_T119 l1 x5_1).f0)) || (!((((rd_T119 l0 x5_1).f1).toList) == (((rd_T119 l1 x5_1).f1).toList)))) = true
       ·
        rw [if_pos c7] at H
        have c7b0 : (!(((rd_T119 l0 x5_1).f0) == ((rd_T119 l1 x5_1).f0)) || (!((((rd_T119 l0 x5_1).f1).toList) == (((rd_T119 l1 x5_1).f1).toList)))) = true := c7
        clear c7; obtain rfl := Option.some.inj H
        have p179 : 0 ≤ (x5_1 : Int) := zP (by assumption)
        have q179 : x5_1 < (l0.length : Int) := zP (by assumption)
        obtain ⟨ad179, e179, hx179_0, hx179_1⟩ := at_T119 HR0.out x5_1 p179 q179
        cases e179; replace p179 := eq_true p179; replace q179 := eq_true q179
        have p180 : 0 ≤ (x5_1 : Int) := zP (by assumption)
        have q180 : x5_1 < (l1.length : Int) := zP (by assumption)
        obtain ⟨ad180, e180, hx180_0, hx180_1⟩ := at_T119 HR1.out x5_1 p180 q180
        cases e180; replace p180 := eq_true p180; replace q180 := eq_true q180
        go_wp2
        repeat (go_quiet (fail); try go_wp2)
        go_ret
        exact ⟨by first | rfl | (simp; done) | (simp [*]; done), by repeat (first | exact Drawn0.refl _ | apply Drawn0.step)⟩
       ·
        rw [if_neg c7] at H
        have c7b0 : (!(((rd_T119 l0 x5_1).f0) == ((rd_T119 l1 x5_1).f0)) || (!((((rd_T119 l0 x5_1).f1).toList) == (((rd_T119 l1 x5_1).f1).toList)))) = false := by simpa using c7
        clear c7
        have H' := yD H
        clear H
        have p179 : 0 ≤ (x5_1 : Int) := zP (by assumption)
        have q179 : x5_1 < (l0.length : Int) := zP (by assumption)
        obtain ⟨ad179, e179, hx179_0, hx179_1⟩ := at_T119 HR0.out x5_1 p179 q179
        cases e179; replace p179 := eq_true p179; replace q179 := eq_true q179
        have p180 : 0 ≤ (x5_1 : Int) := zP (by assumption)
        have q180 : x5_1 < (l1.length : Int) := zP (by assumption)
        obtain ⟨ad180, e180, hx180_0, hx180_1⟩ := at_T119 HR1.out x5_1 p180 q180
        cases e180; replace p180 := eq_true p180; replace q180 := eq_true q180
        go_wp2
        repeat (go_quiet (fail); try go_wp2)
        go_roundg k1
        case measure => have := HK1.out; omega
        case rel => exact ⟨(wrap64 (x5_1 + 1)), (by first | rfl | (simp; done) | (simp [*]; done)), H', ⟨by have := HK1.out; omega⟩, by repeat (first | exact Drawn0.refl _ | apply Drawn0.step)⟩
      ·
       rw [if_neg c6] at H
       exact absurd H (by simp)
     ·
      rw [if_neg c5] at H
      exact absurd H (by simp)
    ·
     rw [if_neg c4] at H; have c4b0 : decide (x5_1 < (l0.length : Int)) = false := zS c4; clear c4; obtain rfl := Option.some.inj H
     go_wp2
     repeat (go_quiet (fail); try go_wp2)
     go_ret
     exact ⟨by first | rfl | (simp; done) | (simp [*]; done), by repeat (first | exact Drawn0.refl _ | apply Drawn0.step)⟩
 ·
  rw [if_neg c3] at H
  have c3b0 : ((l0.length : Int) == (l1.length : Int)) = false := beq_eq_false_iff_ne.mpr c3
  have c3b1 : ((l0.length : Int) != (l1.length : Int)) = true := bne_iff_ne.mpr c3
  have c3b2 : (l0.length == l1.length) = false := by first | simpa using c3 | (simp at c3 ⊢; omega)
  obtain rfl := Option.some.inj H; go_enter Try.func93, Try.ntmps93
  go_wp2
  repeat (go_quiet (fail); try go_wp2)
  go_ret
  exact ⟨by first | rfl | (simp; done) | (simp [*]; done), by repeat (first | exact Drawn0.refl _ | apply Drawn0.step)⟩

end Go.Proofs.Ytehldidejgpifaa.PFnExactSamePager
