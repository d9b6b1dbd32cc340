/- Each Go function here comes to what the plain function of its name says, where that says something. Made by a program of this session, over the print. -/
import Derived.Test.YtdiaebjbiddefaaPFnNormalFormx0
import Derived.Test.YtdiaebjbiddefaaPFnNormalFormx2
namespace Go.Proofs.Ytdiaebjbiddefaa.PFnNormalForm
open Go.RowKit Go.Proofs.YtdiaebjbiddefaaW.PrintWords Go.Proofs.YtdiaebjbiddefaaW.PrintLast Go.Proofs.YtdiaebjbiddefaaW.PrintMore
attribute [local go_sem] max2_int min2_int max_two min_two max_three min_three max_four min_four   -- for this text's walks alone
set_option linter.unusedVariables false
set_option linter.unusedSimpArgs false

/-! ### impl_rankOf: function 99 -/
def impl_rankOf.l0 : Nat → List (S42) → Int → Int → Option (Int)
 | 0, _, _, _ => none
 | k + 1, x10, x11, x12 => if x12 < x11 then (if 0 ≤ x12 then (if x12 < (x10.length : Int) then (some (((rd_T42 x10 x12).f0).length : Int)) else (none)) else (none)) else (some 0)
def impl_rankOf.f (k : Nat) (l0 : List (S42)) (l1 : List (S42)) : Option (Int) := (impl_Box.f k (([l0, l1] : List (List (S42))))).bind fun t190 => (impl_rankOf.l0 k t190 (t190.length : Int) 0)
theorem impl_rankOf.mono_l : ∀ k, (∀ y0 y1 y2, LeO (impl_rankOf.l0 k y0 y1 y2) (impl_rankOf.l0 (k + 1) y0 y1 y2))
 | 0 => fun _ _ _ r h => by simp [impl_rankOf.l0] at h
 | k + 1 => by
  have ih0 := impl_rankOf.mono_l k
  ·
   intro y0 y1 y2
   unfold impl_rankOf.l0
   repeat' first
   | (with_reducible exact ih0 _ _ _)
   | (with_reducible exact impl_Box.mono _ _)
   | (with_reducible exact LeO.refl _)
   | (with_reducible exact LeO.none _)
   | (with_reducible refine LeO.ite ?_ ?_)
   | (with_reducible refine LeO.bind ?_ (fun _ => ?_))
   | exact ih0 _ _ _
   | exact impl_Box.mono _ _
   | exact LeO.none _
   | refine LeO.ite ?_ ?_
   | refine LeO.bind ?_ (fun _ => ?_)
theorem impl_rankOf.mono : ∀ a0 a1 k, LeO (impl_rankOf.f k a0 a1) (impl_rankOf.f (k + 1) a0 a1) := by
 intro a0 a1 k
 have ih0 := impl_rankOf.mono_l k
 unfold impl_rankOf.f
 repeat' first
  | (with_reducible exact ih0 _ _ _)
  | (with_reducible exact impl_Box.mono _ _)
  | (with_reducible exact LeO.refl _)
  | (with_reducible exact LeO.none _)
  | (with_reducible refine LeO.ite ?_ ?_)
  | (with_reducible refine LeO.bind ?_ (fun _ => ?_))
  | exact ih0 _ _ _
  | exact impl_Box.mono _ _
  | exact LeO.none _
  | refine LeO.ite ?_ ?_
  | refine LeO.bind ?_ (fun _ => ?_)
set_option maxHeartbeats 8000000 in
set_option maxRecDepth 100000 in
theorem impl_rankOf.calls (k : Nat) (P0_ : Nat → Prop) (A0 : Option Addr) (c0 : Nat) (l0 : List (S42)) (P1_ : Nat → Prop) (A1 : Option Addr) (c1 : Nat) (l1 : List (S42)) (r : Int) (w : World) (hs0 : Kd.V k42 42 w w.heap.size (fun k_ => P0_ k_) (.slice A0 l0.length c0) l0) (hs1 : Kd.V k42 42 w w.heap.size (fun k_ => P1_ k_) (.slice A1 l1.length c1) l1) (h : impl_rankOf.f k l0 l1 = some r) :
 Calls Try.prog 99 #[.slice A0 l0.length c0, .slice A1 l1.length c1] w fun e w' => e = .returned (.int .i64 r) ∧ Below w.heap.size w w' := by
 have hu42 := Try.underlying42
 have HO0 := yD (show Kd.V k42 42 w w.heap.size (fun k_ => ((P0_ k_ ∨ P1_ k_) ∨ w.heap.size ≤ k_)) (.slice A0 l0.length c0) l0 from Kd.V_mono hs0 (fun k_ hk => .inl (.inl hk)))
 have HO1 := yD (show Kd.V k42 42 w w.heap.size (fun k_ => ((P0_ k_ ∨ P1_ k_) ∨ w.heap.size ≤ k_)) (.slice A1 l1.length c1) l1 from Kd.V_mono hs1 (fun k_ hk => .inl (.inr hk)))
 have HB := yD (Below.refl w.heap.size w)
 have H : ((impl_Box.f k (([l0, l1] : List (List (S42))))).bind fun t190 => (impl_rankOf.l0 k t190 (t190.length : Int) 0)) = some r := h
 clear h
 obtain ⟨y187, hy187⟩ : ∃ y_ : List (List (S42)), y_ = (([l0, l1] : List (List (S42)))) := ⟨_, rfl⟩
 replace H : ((impl_Box.f k y187).bind fun t190 => (impl_rankOf.l0 k t190 (t190.length : Int) 0)) = some r := by first | (rw [hy187]; with_reducible exact H) | (have H2_ := (Option.bind_some _ _).symm.trans H; rw [hy187]; with_reducible exact H2_) | (have H2_ := (Option.bind_some _ _).symm.trans H; with_reducible exact H2_) | with_reducible exact H | (rw [hy187]; exact H) | exact H
 have Ny187 := yD hy187
 clear hy187
 obtain ⟨t190, A30, H⟩ := zW_ H
 replace H : (impl_rankOf.l0 k t190 (t190.length : Int) 0) = some r := H
 have A3 := yD A30
 clear A30
 have H' := yD H
 clear H; go_enter Try.func99, Try.ntmps99
 go_wp2_with (first | ((with_reducible refine gate_dst (N := 9) rfl ?_); refine Kd.N_lit (Kd.slice 42 k42) _ 24 ?hg (N' := 9) ?hd (xs := ([l0, l1] : List (List (S42)))) (inner := [.slice A0 l0.length c0, .slice A1 l1.length c1]) (ok := (fun k_ => ((P0_ k_ ∨ P1_ k_) ∨ w.heap.size ≤ k_))) (okp := (fun k_ => ((P0_ k_ ∨ P1_ k_) ∨ w.heap.size ≤ k_))) ?hr ?hp (fun _ hk => hk) ((show ∀ k_, w.heap.size ≤ k_ → (fun k_ => ((P0_ k_ ∨ P1_ k_) ∨ w.heap.size ≤ k_)) k_ from fun k_ hk => (.inr (Nat.le_trans (below_size (kB HB)) hk))) _ (Nat.le_refl _)) (Below.refl _ _) (Nat.le_refl _) (by simp) ?_; (case hd => rfl); (case hg => rfl); (case hr => first | (go_simp; done) | (go_simp; rfl)); (case hp => exact (Reps.one (show Kd.FK (Kd.slice 42 k42) _ _ l0 [.slice A0 l0.length c0] from (Kd.FK_slice_mk (Kd.V_reads' (Kd.V_mono (ok' := (fun k_ => ((P0_ k_ ∨ P1_ k_) ∨ w.heap.size ≤ k_))) (HO0.out) (fun k_ hk => hk))).2.1 (Kd.V_F (Kd.V_mono (ok' := (fun k_ => ((P0_ k_ ∨ P1_ k_) ∨ w.heap.size ≤ k_))) (HO0.out) (fun k_ hk => hk))))) (Reps.one (show Kd.FK (Kd.slice 42 k42) _ _ l1 [.slice A1 l1.length c1] from (Kd.FK_slice_mk (Kd.V_reads' (Kd.V_mono (ok' := (fun k_ => ((P0_ k_ ∨ P1_ k_) ∨ w.heap.size ≤ k_))) (HO1.out) (fun k_ hk => hk))).2.1 (Kd.V_F (Kd.V_mono (ok' := (fun k_ => ((P0_ k_ ∨ P1_ k_) ∨ w.heap.size ≤ k_))) (HO1.out) (fun k_ hk => hk))))) (Reps.none _ _)))); intro v188 w4 ho5 hb hg_ hnew_; clear hg_ hnew_; (first | rw [← Ny187.out] at ho5 | (simp only [Int.reduceToNat] at ho5; rw [← Ny187.out] at ho5)); have n0_ := yD (Kd.V_elder' (by (with_reducible repeat (first | apply Kd.V_alloc | apply Kd.V_drewN | apply Kd.V_drew)); exact HO0.out) (Kd.N_base ho5) hb); have n1_ := yD (Kd.V_elder' (by (with_reducible repeat (first | apply Kd.V_alloc | apply Kd.V_drewN | apply Kd.V_drew)); exact HO1.out) (Kd.N_base ho5) hb); have n2_ := yD (Kd.N_lower ho5 (below_size (kB HB))); have n3_ := yD (zC (kB HB) hb); clear HO0; clear HO1; clear HB; have HO0 := n0_; have HO1 := n1_; have HO189 := n2_; have HB := n3_; clear n0_ n1_ n2_ n3_; clear hb ho5; obtain ⟨Ao6, co6, eo6⟩ := Kd.N_slice HO189.out; subst eo6) | ((with_reducible refine gate_callee (f := 131) rfl ?_); refine goesL_ (some 10) rfl rfl Try.func131 (by kernel_rfl) rfl #[.slice Ao6 y187.length co6] rfl (by (try simp only [zK, zL, zM]); first | done | rfl | (simp only [zN, zO]; rfl)) ?_; (with_reducible refine (impl_Box.calls k (fun k_ => ((P0_ k_ ∨ P1_ k_) ∨ w.heap.size ≤ k_)) _ _ y187 t190 _ ?side1 A3.out).mono ?_); (case side1 => exact Kd.N_V (HO189.out)); rintro e w7 ⟨v191, rfl, ho0, hb⟩; refine ⟨_, rfl, ?_⟩; have n0_ := yD (Kd.V_elder' (by (with_reducible repeat (first | apply Kd.V_alloc | apply Kd.V_drewN | apply Kd.V_drew)); exact HO0.out) (Kd.N_base ho0) hb); have n1_ := yD (Kd.V_elder' (by (with_reducible repeat (first | apply Kd.V_alloc | apply Kd.V_drewN | apply Kd.V_drew)); exact HO1.out) (Kd.N_base ho0) hb); have n2_ := yD (Kd.N_elder' (by (with_reducible repeat (first | apply Kd.N_alloc | apply Kd.N_drewN | apply Kd.N_drew)); exact HO189.out) (Kd.N_base ho0) hb); have n3_ := yD (Kd.N_lower (Kd.N_mono (ok' := fun k_ => ((P0_ k_ ∨ P1_ k_) ∨ w.heap.size ≤ k_)) ho0 (fun k_ hk_ => Or.elim hk_ (fun hs_ => hs_) (fun hn_ => (.inr (Nat.le_trans (below_size (kB HB)) hn_))))) (below_size (kB HB))); have n4_ := yD (zC (kB HB) hb); clear HO0; clear HO1; clear HO189; clear HB; have HO0 := n0_; have HO1 := n1_; have HO189 := n2_; have HO192 := n3_; have HB := n4_; clear n0_ n1_ n2_ n3_ n4_; (try clear hb); (try clear hb2); (try clear hk); (try clear hi); (try clear ho0); obtain ⟨Ao8, co8, eo8⟩ := Kd.N_slice HO192.out; subst eo8))
 (try simp only [Act.put, zH, zI, zJ])
 go_loopg [12] k (fun kq v12 w' => ∃ (x12_1 : Int), v12 = .int .i64 x12_1 ∧ Aside0 (impl_rankOf.l0 kq t190 (t190.length : Int) x12_1 = some r) ∧ Aside0 (kq ≤ k) ∧ Aside0 (Kd.N k42 42 w' w.heap.size (fun k_ => ((P0_ k_ ∨ P1_ k_) ∨ w.heap.size ≤ k_)) (.slice Ao8 t190.length co8) t190) ∧ Aside0 (Below w.heap.size w w'))
 case atStart => exact ⟨(0), (by first | rfl | (simp; done) | (simp [*]; done)), H', ⟨Nat.le_refl _⟩, ⟨by (with_reducible repeat (first | apply Kd.N_alloc | apply Kd.N_drewN | apply Kd.N_drew)); exact HO192.out⟩, ⟨kR0 HB⟩⟩
 case round =>
  clear H'
  try clear c1; try clear p2
  obtain ⟨x12_1, rfl, HA, HK1, HO_10, HB⟩ := hrel
  cases gk with
  | zero => exact absurd HA.out (by simp [impl_rankOf.l0])
  | succ k1 =>
   have H := HA.out; clear HA
   simp only [impl_rankOf.l0] at H
   by_cases c9 : x12_1 < (t190.length : Int)
   ·
    rw [if_pos c9] at H
    have c9b0 : decide (x12_1 < (t190.length : Int)) = true := zR c9; clear c9
    by_cases c10 : 0 ≤ x12_1
    ·
     rw [if_pos c10] at H
     have c10b0 : decide (0 ≤ x12_1) = true := zR c10; clear c10
     by_cases c11 : x12_1 < (t190.length : Int)
     ·
      rw [if_pos c11] at H
      have c11b0 : decide (x12_1 < (t190.length : Int)) = true := zR c11; clear c11; obtain rfl := Option.some.inj H
      have p193 : 0 ≤ (x12_1 : Int) := zP (by assumption)
      have q193 : x12_1 < (t190.length : Int) := zP (by assumption)
      obtain ⟨ad193, A193_0, c193_0, A193_1, c193_1, e193, hx193_0, hx193_1, hl193_0, hi193_0, hl193_1, hi193_1⟩ := at_T42 (Kd.N_reads' HO_10.out).2.2 x12_1 p193 q193
      cases e193
      obtain ⟨ce193, hce193, hMe193, hcc193⟩ := Kd.N_get HO_10.out z42 x12_1 p193 (by first | exact q193 | exact zP (by assumption) | (have e_ := (Kd.N_reads' HO_10.out).1; omega))
      obtain ⟨ua193_0, uc193_0, ua193_1, uc193_1, rfl, ul193_0, ge193_0, ul193_1, ge193_1⟩ := k42_openF hMe193
      have hv193_0 := hcc193 0 _ rfl
      rw [Nat.add_zero] at hv193_0
      replace hv193_0 := Option.some.inj (hv193_0.symm.trans hx193_0)
      injection hv193_0 with hva_ hvn_ hvc_
      rw [hva_] at ge193_0
      rw [hvc_] at ul193_0
      have HL193_0 := yD (show Kd.V (Kd.int .i64) 2 _ w.heap.size _ _ ((rd_T42 t190 x12_1).f0) from Kd.V_mk ul193_0 ge193_0)
      clear hva_ hvn_ hvc_ ge193_0 ul193_0
      have hv193_1 := hcc193 1 _ rfl
      rw [add_field _ _ 1 (by omega)] at hv193_1
      replace hv193_1 := Option.some.inj (hv193_1.symm.trans hx193_1)
      injection hv193_1 with hva_ hvn_ hvc_
      rw [hva_] at ge193_1
      rw [hvc_] at ul193_1
      have HL193_1 := yD (show Kd.V (Kd.int .i64) 2 _ w.heap.size _ _ ((rd_T42 t190 x12_1).f1) from Kd.V_mk ul193_1 ge193_1)
      clear hva_ hvn_ hvc_ ge193_1 ul193_1 hcc193 hce193
      have HR193_0 := yD hi193_0
      have HC193_0 := yD hl193_0
      clear hi193_0 hl193_0
      have HR193_1 := yD hi193_1
      have HC193_1 := yD hl193_1
      clear hi193_1 hl193_1; replace p193 := eq_true p193; replace q193 := eq_true q193
      go_wp2_with (first | ((with_reducible refine gate_dst (N := 6) rfl ?_); refine box_event ?hg (N := 6) ?hd (cs := #[.slice none 0 0, .slice none 0 0]) (t := 42) ?hr ?_; (case hd => rfl); (case hg => rfl); (case hr => first | (go_simp; done) | (go_simp; rfl)); intro gb194 hg w12 hbox hb; have n0_ := yD (Kd.N_below (Kd.N_elderB (by (with_reducible repeat (first | apply Kd.N_alloc | apply Kd.N_drewN | apply Kd.N_drew)); exact HO_10.out) gb194 (Nat.le_of_eq hg.symm)) hb); have n1_ := yD (Kd.V_below (Kd.V_elderB (by (with_reducible repeat (first | apply Kd.V_alloc | apply Kd.V_drewN | apply Kd.V_drew)); exact HL193_0.out) gb194 (Nat.le_of_eq hg.symm)) hb); have n2_ := yD (Kd.V_below (Kd.V_elderB (by (with_reducible repeat (first | apply Kd.V_alloc | apply Kd.V_drewN | apply Kd.V_drew)); exact HL193_1.out) gb194 (Nat.le_of_eq hg.symm)) hb); have n3_ := yD (yY (by repeat (first | (with_reducible exact HR193_0.out) | (with_reducible first | refine yV ?_ _ | refine yW ?_ _ | refine yX ?_) | exact HR193_0.out)) hb); have n4_ := yD (yY (by repeat (first | (with_reducible exact HR193_1.out) | (with_reducible first | refine yV ?_ _ | refine yW ?_ _ | refine yX ?_) | exact HR193_1.out)) hb); have n5_ := yD (zC (kB HB) hb); have n6_ := yD (hbox); have n7_ := yD ((by rw [hg]; exact (below_size (kB HB)) : w.heap.size ≤ gb194)); have n8_ := yD ((by rw [hg]; exact (below_size (kB HB)) : w.heap.size ≤ gb194)); clear HO_10; clear HL193_0; clear HL193_1; clear HR193_0; clear HR193_1; clear HB; have HO_10 := n0_; have HL193_0 := n1_; have HL193_1 := n2_; have HR193_0 := n3_; have HR193_1 := n4_; have HB := n5_; have BK194 := n6_; have GW194 := n7_; have GE194 := n8_; clear n0_ n1_ n2_ n3_ n4_ n5_ n6_ n7_ n8_; clear hb hbox hg; obtain ⟨hcz13_0, hcz13_1⟩ := cz2 BK194.out; obtain ⟨hfz13_0, hfz13_1⟩ := fz2 BK194.out))
      go_ret
      exact ⟨by first | rfl | (simp <;> rfl) | (simp [*] <;> rfl), kR1 HB⟩
     · rw [if_neg c11] at H
       exact absurd H (by simp)
    · rw [if_neg c10] at H
      exact absurd H (by simp)
   · rw [if_neg c9] at H
     have c9b0 : decide (x12_1 < (t190.length : Int)) = false := zS c9; clear c9; obtain rfl := Option.some.inj H
     go_wp2
     go_ret
     exact ⟨by first | rfl | (simp <;> rfl) | (simp [*] <;> rfl), kR0 HB⟩

/-! ### impl_either: function 57 -/
def impl_either.f (a0 : Bool) (a1 : Bool) : Option (Bool) := if a0 = true then (some true) else (some a1)
set_option maxHeartbeats 8000000 in
set_option maxRecDepth 100000 in
theorem impl_either.calls (a0 : Bool) (a1 : Bool) (r : Bool) (w : World) (h : impl_either.f a0 a1 = some r) :
 Calls Try.prog 57 #[.bool a0, .bool a1] w fun e w' => e = .returned (.bool r) ∧ Drawn0 w w' := by
 have H : (if a0 = true then (some true) else (some a1)) = some r := h
 clear h
 by_cases c3 : a0 = true
 ·
  subst c3
  have H1 : (some true) = some r := by rw [if_pos rfl] at H; exact H
  clear H; have H := H1; clear H1; obtain rfl := Option.some.inj H; go_enter Try.func57, Try.ntmps57
  go_wp2
  go_ret
  exact ⟨by first | rfl | (simp; done) | (simp [*]; done), by repeat (first | exact Drawn0.refl _ | apply Drawn0.step)⟩
 ·
  replace c3 := Bool.eq_false_iff.mpr c3
  subst c3
  have H1 : (some a1) = some r := by rw [if_neg (show ¬ (false = true) by decide)] at H; exact H
  clear H; have H := H1; clear H1; obtain rfl := Option.some.inj H; go_enter Try.func57, Try.ntmps57
  go_wp2
  go_ret
  exact ⟨by first | rfl | (simp; done) | (simp [*]; done), by repeat (first | exact Drawn0.refl _ | apply Drawn0.step)⟩

/-! ### impl_within: function 106 -/
def impl_within.f (a0 : Int) (a1 : Int) (a2 : Int) : Option (Bool) := if a0 ≥ a1 then (some (decide (a0 ≤ a2))) else (some false)
set_option maxHeartbeats 8000000 in
set_option maxRecDepth 100000 in
theorem impl_within.calls (a0 : Int) (a1 : Int) (a2 : Int) (r : Bool) (w : World) (h : impl_within.f a0 a1 a2 = some r) :
 Calls Try.prog 106 #[.int .i64 a0, .int .i64 a1, .int .i64 a2] w fun e w' => e = .returned (.bool r) ∧ Drawn0 w w' := by
 have H : (if a0 ≥ a1 then (some (decide (a0 ≤ a2))) else (some false)) = some r := h
 clear h
 by_cases c4 : a0 ≥ a1
 · rw [if_pos c4] at H
   have c4b0 : decide (a1 ≤ a0) = true := zR c4; clear c4; obtain rfl := Option.some.inj H; go_enter Try.func106, Try.ntmps106
   go_wp2
   go_ret
   exact ⟨by first | rfl | (simp; done) | (simp [*]; done), by repeat (first | exact Drawn0.refl _ | apply Drawn0.step)⟩
 ·
  rw [if_neg c4] at H
  have c4b0 : decide (a1 ≤ a0) = false := zS c4; clear c4; obtain rfl := Option.some.inj H; go_enter Try.func106, Try.ntmps106
  go_wp2
  go_ret
  exact ⟨by first | rfl | (simp; done) | (simp [*]; done), by repeat (first | exact Drawn0.refl _ | apply Drawn0.step)⟩

/-! ### impl_section: function 123 -/
def impl_section.l0 : Nat → Int → List (S42) → List (S42) → Int → Int → Option ((List (S42)))
 | 0, _, _, _, _, _ => none
 | k + 1, x1, x5, x8, x9, x10 => if x10 < x9 then (if 0 ≤ x10 then (if x10 < (x8.length : Int) then (if 0 < (((rd_T42 x8 x10).f0).length : Int) then (if 0 < (((rd_T42 x8 x10).f1).length : Int) then ((impl_within.f x1 (rd ((rd_T42 x8 x10).f0) 0) (wrap64 ((rd ((rd_T42 x8 x10).f1) 0) - 1))).bind fun t199 => (if t199 = true then (if 1 ≤ (((rd_T42 x8 x10).f0).length : Int) then (if 1 ≤ (((rd_T42 x8 x10).f1).length : Int) then (if x5.length < 2932031007402 then (impl_section.l0 k x1 (x5 ++ [(⟨(((rd_T42 x8 x10).f0).drop 1), (((rd_T42 x8 x10).f1).drop 1)⟩ : S42)]) x8 x9 (wrap64 (x10 + 1))) else (none)) else (none)) else (none)) else (impl_section.l0 k x1 x5 x8 x9 (wrap64 (x10 + 1))))) else (none)) else (none)) else (none)) else (none)) else (some x5)
def impl_section.f (k : Nat) (l0 : List (S42)) (a1 : Int) : Option ((List (S42))) := impl_section.l0 k a1 ([] : List (S42)) l0 (l0.length : Int) 0
theorem impl_section.mono_l : ∀ k, (∀ y0 y1 y2 y3 y4, LeO (impl_section.l0 k y0 y1 y2 y3 y4) (impl_section.l0 (k + 1) y0 y1 y2 y3 y4))
 | 0 => fun _ _ _ _ _ r h => by simp [impl_section.l0] at h
 | k + 1 => by
  have ih0 := impl_section.mono_l k
  ·
   intro y0 y1 y2 y3 y4
   unfold impl_section.l0
   repeat' first
   | (with_reducible exact ih0 _ _ _ _ _)
   | (with_reducible exact LeO.refl _)
   | (with_reducible exact LeO.none _)
   | (with_reducible refine LeO.ite ?_ ?_)
   | (with_reducible refine LeO.bind ?_ (fun _ => ?_))
   | exact ih0 _ _ _ _ _
   | exact LeO.none _
   | refine LeO.ite ?_ ?_
   | refine LeO.bind ?_ (fun _ => ?_)
theorem impl_section.mono : ∀ a0 a1 k, LeO (impl_section.f k a0 a1) (impl_section.f (k + 1) a0 a1) := by
 intro a0 a1 k
 have ih0 := impl_section.mono_l k
 unfold impl_section.f
 repeat' first
  | (with_reducible exact ih0 _ _ _ _ _)
  | (with_reducible exact LeO.refl _)
  | (with_reducible exact LeO.none _)
  | (with_reducible refine LeO.ite ?_ ?_)
  | (with_reducible refine LeO.bind ?_ (fun _ => ?_))
  | exact ih0 _ _ _ _ _
  | exact LeO.none _
  | refine LeO.ite ?_ ?_
  | refine LeO.bind ?_ (fun _ => ?_)
def impl_section.T5 : Bool × List (List Nat × List Nat) := (true, [([], []), ([], []), ([1], [1]), ([2], [2]), ([3], [3]), ([], []), ([5], [5]), ([6], [6]), ([7], [7]), ([8], [8]), ([0, 4, 9], [0, 4, 9])])
def impl_section.B5 : List Nat := [0, 0, 2, 6, 14, 0, 32, 96, 224, 480, 1023]
theorem impl_section.tab5 : rtab .any (opsOf Try.f123 5) = impl_section.T5 := by kernel_rfl
theorem impl_section.bits5 : waitsOk impl_section.T5.2 impl_section.B5 = true := by kernel_rfl
def impl_section.T6 : Bool × List (List Nat × List Nat) := (true, [([], []), ([], []), ([1], [1]), ([2], [2]), ([], []), ([4], [4]), ([5], [5]), ([3, 6], [3, 6]), ([7], [7]), ([0, 8], [0, 8]), ([9, 9, 0, 1, 2, 3, 4, 5, 6, 7, 8, 9], [0, 9])])
def impl_section.B6 : List Nat := [0, 0, 2, 6, 0, 16, 48, 126, 254, 511, 1023]
theorem impl_section.tab6 : rtab .any (opsOf Try.f123 6) = impl_section.T6 := by kernel_rfl
theorem impl_section.bits6 : waitsOk impl_section.T6.2 impl_section.B6 = true := by kernel_rfl
set_option maxHeartbeats 8000000 in
set_option maxRecDepth 100000 in
theorem impl_section.calls (k : Nat) (P0_ : Nat → Prop) (A0 : Option Addr) (c0 : Nat) (l0 : List (S42)) (a1 : Int) (r : List (S42)) (w : World) (hs0 : Kd.V k42 42 w w.heap.size (fun k_ => P0_ k_) (.slice A0 l0.length c0) l0) (h : impl_section.f k l0 a1 = some r) :
 Calls Try.prog 123 #[.slice A0 l0.length c0, .int .i64 a1] w fun e w' => ∃ v0_ : Value, e = .returned (v0_) ∧ Kd.N k42 42 w' w.heap.size (fun k_ => (P0_ k_ ∨ w.heap.size ≤ k_)) v0_ r ∧ Below w.heap.size w w' := by
 have hu42 := Try.underlying42
 have HO0 := yD (show Kd.V k42 42 w w.heap.size (fun k_ => (P0_ k_ ∨ w.heap.size ≤ k_)) (.slice A0 l0.length c0) l0 from Kd.V_mono hs0 (fun k_ hk => .inl hk))
 have HB := yD (Below.refl w.heap.size w)
 have H : (impl_section.l0 k a1 ([] : List (S42)) l0 (l0.length : Int) 0) = some r := h
 clear h
 have H' := yD H
 clear H; go_enter Try.func123, Try.ntmps123
 go_wp2
 go_loopg [5, 10] k (fun kq v5 v10 w' => ∃ (x5_1 : List (S42)) (x10_1 : Int), v10 = .int .i64 x10_1 ∧ Aside0 (impl_section.l0 kq a1 x5_1 l0 (l0.length : Int) x10_1 = some r) ∧ Aside0 (kq ≤ k) ∧ Aside0 (Kd.N k42 42 w' w.heap.size (fun k_ => (P0_ k_ ∨ w.heap.size ≤ k_)) v5 x5_1) ∧ Aside0 (Kd.V k42 42 w' w.heap.size (fun k_ => (P0_ k_ ∨ w.heap.size ≤ k_) ∧ some k_ ≠ (v5 : Value).ownBlock) (.slice A0 l0.length c0) l0) ∧ Aside0 (Below w.heap.size w w'))
 case atStart => exact ⟨(([] : List (S42))), (0), (by first | rfl | (simp; done) | (simp [*]; done)), H', ⟨Nat.le_refl _⟩, ⟨by first | exact Kd.S_nil _ _ _ _ _ | exact Kd.N_nil _ _ _ _ _ | exact Kd.V_nil _ _ _ _ _ | exact Kd.Q_nil _ _ _ _ _ | exact Kd.R_nil _ _ _ _ _⟩, ⟨by (with_reducible repeat (first | apply Kd.V_alloc | apply Kd.V_drewN | apply Kd.V_drew)); exact Kd.V_mono HO0.out (fun _ hk => ⟨hk, (by simp [Value.ownBlock])⟩)⟩, ⟨kR0 HB⟩⟩
 case round =>
  clear H'
  try clear c1; try clear p2
  obtain ⟨x5_1, x10_1, rfl, HA, HK1, HO_5, HO_8, HB⟩ := hrel
  cases gk with
  | zero => exact absurd HA.out (by simp [impl_section.l0])
  | succ k1 =>
   have H := HA.out; clear HA
   simp only [impl_section.l0] at H
   by_cases c3 : x10_1 < (l0.length : Int)
   ·
    rw [if_pos c3] at H
    have c3b0 : decide (x10_1 < (l0.length : Int)) = true := zR c3; clear c3
    by_cases c4 : 0 ≤ x10_1
    ·
     rw [if_pos c4] at H
     have c4b0 : decide (0 ≤ x10_1) = true := zR c4; clear c4
     by_cases c5 : x10_1 < (l0.length : Int)
     ·
      rw [if_pos c5] at H
      have c5b0 : decide (x10_1 < (l0.length : Int)) = true := zR c5; clear c5
      by_cases c6 : 0 < (((rd_T42 l0 x10_1).f0).length : Int)
      ·
       rw [if_pos c6] at H
       have c6b0 : decide (0 < (((rd_T42 l0 x10_1).f0).length : Int)) = true := zR c6
       have c6b1 : decide (0 < ((rd_T42 l0 x10_1).f0).length) = true := zR (by omega)
       clear c6
       by_cases c7 : 0 < (((rd_T42 l0 x10_1).f1).length : Int)
       ·
        rw [if_pos c7] at H
        have c7b0 : decide (0 < (((rd_T42 l0 x10_1).f1).length : Int)) = true := zR c7
        have c7b1 : decide (0 < ((rd_T42 l0 x10_1).f1).length) = true := zR (by omega)
        clear c7
        obtain ⟨t199, A80, H⟩ := zW_ H
        replace H : (if t199 = true then (if 1 ≤ (((rd_T42 l0 x10_1).f0).length : Int) then (if 1 ≤ (((rd_T42 l0 x10_1).f1).length : Int) then (if x5_1.length < 2932031007402 then (impl_section.l0 k1 a1 (x5_1 ++ [(⟨(((rd_T42 l0 x10_1).f0).drop 1), (((rd_T42 l0 x10_1).f1).drop 1)⟩ : S42)]) l0 (l0.length : Int) (wrap64 (x10_1 + 1))) else (none)) else (none)) else (none)) else (impl_section.l0 k1 a1 x5_1 l0 (l0.length : Int) (wrap64 (x10_1 + 1)))) = some r := H
        have A8 := yD A80
        clear A80
        by_cases c9 : t199 = true
        ·
         subst c9
         have H1 : (if 1 ≤ (((rd_T42 l0 x10_1).f0).length : Int) then (if 1 ≤ (((rd_T42 l0 x10_1).f1).length : Int) then (if x5_1.length < 2932031007402 then (impl_section.l0 k1 a1 (x5_1 ++ [(⟨(((rd_T42 l0 x10_1).f0).drop 1), (((rd_T42 l0 x10_1).f1).drop 1)⟩ : S42)]) l0 (l0.length : Int) (wrap64 (x10_1 + 1))) else (none)) else (none)) else (none)) = some r := by rw [if_pos rfl] at H; exact H
         clear H; have H := H1; clear H1
         by_cases c10 : 1 ≤ (((rd_T42 l0 x10_1).f0).length : Int)
         ·
          rw [if_pos c10] at H
          have c10b0 := eq_true c10
          have c10b1 : decide (1 ≤ (((rd_T42 l0 x10_1).f0).length : Int)) = true := zR c10; clear c10
          obtain ⟨y200, hy200⟩ : ∃ y_ : List Int, y_ = (((rd_T42 l0 x10_1).f0).drop 1) := ⟨_, rfl⟩
          replace H : (if 1 ≤ (((rd_T42 l0 x10_1).f1).length : Int) then (if x5_1.length < 2932031007402 then (impl_section.l0 k1 a1 (x5_1 ++ [(⟨y200, (((rd_T42 l0 x10_1).f1).drop 1)⟩ : S42)]) l0 (l0.length : Int) (wrap64 (x10_1 + 1))) else (none)) else (none)) = some r := by first | (rw [hy200]; with_reducible exact H) | (have H2_ := (Option.bind_some _ _).symm.trans H; rw [hy200]; with_reducible exact H2_) | (have H2_ := (Option.bind_some _ _).symm.trans H; with_reducible exact H2_) | with_reducible exact H | (rw [hy200]; exact H) | exact H
          have Ny200 := yD hy200
          clear hy200
          by_cases c11 : 1 ≤ (((rd_T42 l0 x10_1).f1).length : Int)
          ·
           rw [if_pos c11] at H
           have c11b0 := eq_true c11
           have c11b1 : decide (1 ≤ (((rd_T42 l0 x10_1).f1).length : Int)) = true := zR c11; clear c11
           obtain ⟨y205, hy205⟩ : ∃ y_ : List Int, y_ = (((rd_T42 l0 x10_1).f1).drop 1) := ⟨_, rfl⟩
           replace H : (if x5_1.length < 2932031007402 then (impl_section.l0 k1 a1 (x5_1 ++ [(⟨y200, y205⟩ : S42)]) l0 (l0.length : Int) (wrap64 (x10_1 + 1))) else (none)) = some r := by first | (rw [hy205]; with_reducible exact H) | (have H2_ := (Option.bind_some _ _).symm.trans H; rw [hy205]; with_reducible exact H2_) | (have H2_ := (Option.bind_some _ _).symm.trans H; with_reducible exact H2_) | with_reducible exact H | (rw [hy205]; exact H) | exact H
           have Ny205 := yD hy205
           clear hy205
           by_cases c12 : x5_1.length < 2932031007402
           ·
            rw [if_pos c12] at H
            have LMc12 := yD c12
            clear c12
            obtain ⟨y210, hy210⟩ : ∃ y_ : List (S42), y_ = (x5_1 ++ [(⟨y200, y205⟩ : S42)]) := ⟨_, rfl⟩
            replace H : (impl_section.l0 k1 a1 y210 l0 (l0.length : Int) (wrap64 (x10_1 + 1))) = some r := by first | (rw [hy210]; with_reducible exact H) | (have H2_ := (Option.bind_some _ _).symm.trans H; rw [hy210]; with_reducible exact H2_) | (have H2_ := (Option.bind_some _ _).symm.trans H; with_reducible exact H2_) | with_reducible exact H | (rw [hy210]; exact H) | exact H
            have Ny210 := yD hy210
            clear hy210
            have H' := yD H
            clear H
            have p195 : 0 ≤ (x10_1 : Int) := zP (by assumption)
            have q195 : x10_1 < (l0.length : Int) := zP (by assumption)
            obtain ⟨ad195, A195_0, c195_0, A195_1, c195_1, e195, hx195_0, hx195_1, hl195_0, hi195_0, hl195_1, hi195_1⟩ := at_T42 (Kd.V_reads' HO_8.out).2.2 x10_1 p195 q195
            cases e195
            obtain ⟨ce195, hce195, hMe195, hcc195⟩ := Kd.V_get HO_8.out z42 x10_1 p195 (by first | exact q195 | exact zP (by assumption) | (have e_ := (Kd.V_reads' HO_8.out).1; omega))
            obtain ⟨ua195_0, uc195_0, ua195_1, uc195_1, rfl, ul195_0, ge195_0, ul195_1, ge195_1⟩ := k42_openF hMe195
            have hv195_0 := hcc195 0 _ rfl
            rw [Nat.add_zero] at hv195_0
            replace hv195_0 := Option.some.inj (hv195_0.symm.trans hx195_0)
            injection hv195_0 with hva_ hvn_ hvc_
            rw [hva_] at ge195_0
            rw [hvc_] at ul195_0
            have HL195_0 := yD (show Kd.V (Kd.int .i64) 2 _ w.heap.size _ _ ((rd_T42 l0 x10_1).f0) from Kd.V_mk ul195_0 ge195_0)
            clear hva_ hvn_ hvc_ ge195_0 ul195_0
            have hv195_1 := hcc195 1 _ rfl
            rw [add_field _ _ 1 (by omega)] at hv195_1
            replace hv195_1 := Option.some.inj (hv195_1.symm.trans hx195_1)
            injection hv195_1 with hva_ hvn_ hvc_
            rw [hva_] at ge195_1
            rw [hvc_] at ul195_1
            have HL195_1 := yD (show Kd.V (Kd.int .i64) 2 _ w.heap.size _ _ ((rd_T42 l0 x10_1).f1) from Kd.V_mk ul195_1 ge195_1)
            clear hva_ hvn_ hvc_ ge195_1 ul195_1 hcc195 hce195
            have HR195_0 := yD hi195_0
            have HC195_0 := yD hl195_0
            clear hi195_0 hl195_0
            have HR195_1 := yD hi195_1
            have HC195_1 := yD hl195_1
            clear hi195_1 hl195_1; replace p195 := eq_true p195; replace q195 := eq_true q195
            try go_wp2_with (first | ((with_reducible refine gate_dst (N := 7) rfl ?_); refine box_event ?hg (N := 7) ?hd (cs := #[.slice none 0 0, .slice none 0 0]) (t := 42) ?hr ?_; (case hd => rfl); (case hg => rfl); (case hr => first | (go_simp; done) | (go_simp; rfl)); intro gb196 hg w13 hbox hb; have n0_ := yD (Kd.N_below (Kd.N_elderB (by (with_reducible repeat (first | apply Kd.N_alloc | apply Kd.N_drewN | apply Kd.N_drew)); exact HO_5.out) gb196 (Nat.le_of_eq hg.symm)) hb); have n1_ := yD (Kd.V_below (Kd.V_elderB (by (with_reducible repeat (first | apply Kd.V_alloc | apply Kd.V_drewN | apply Kd.V_drew)); exact HO_8.out) gb196 (Nat.le_of_eq hg.symm)) hb); have n2_ := yD (Kd.V_below (Kd.V_elderB (by (with_reducible repeat (first | apply Kd.V_alloc | apply Kd.V_drewN | apply Kd.V_drew)); exact HL195_0.out) gb196 (Nat.le_of_eq hg.symm)) hb); have n3_ := yD (Kd.V_below (Kd.V_elderB (by (with_reducible repeat (first | apply Kd.V_alloc | apply Kd.V_drewN | apply Kd.V_drew)); exact HL195_1.out) gb196 (Nat.le_of_eq hg.symm)) hb); have n4_ := yD (yY (by repeat (first | (with_reducible exact HR195_0.out) | (with_reducible first | refine yV ?_ _ | refine yW ?_ _ | refine yX ?_) | exact HR195_0.out)) hb); have n5_ := yD (yY (by repeat (first | (with_reducible exact HR195_1.out) | (with_reducible first | refine yV ?_ _ | refine yW ?_ _ | refine yX ?_) | exact HR195_1.out)) hb); have n6_ := yD (zC (kB HB) hb); have n7_ := yD (hbox); have n8_ := yD ((by rw [hg]; exact (below_size (kB HB)) : w.heap.size ≤ gb196)); have n9_ := yD ((by rw [hg]; exact (below_size (kB HB)) : w.heap.size ≤ gb196)); clear HO_5; clear HO_8; clear HL195_0; clear HL195_1; clear HR195_0; clear HR195_1; clear HB; have HO_5 := n0_; have HO_8 := n1_; have HL195_0 := n2_; have HL195_1 := n3_; have HR195_0 := n4_; have HR195_1 := n5_; have HB := n6_; have BK196 := n7_; have GW196 := n8_; have GE196 := n9_; clear n0_ n1_ n2_ n3_ n4_ n5_ n6_ n7_ n8_ n9_; clear hb hbox hg; obtain ⟨hcz14_0, hcz14_1⟩ := cz2 BK196.out; obtain ⟨hfz14_0, hfz14_1⟩ := fz2 BK196.out))
            have n0_ : Aside0 (Kd.N k42 42 ((w13.setCell ⟨gb196, 0, none⟩ (.slice A195_0 ((rd_T42 l0 x10_1).f0).length c195_0)).setCell ⟨gb196, 1, none⟩ (.slice A195_1 ((rd_T42 l0 x10_1).f1).length c195_1)) w.heap.size (fun k_ => (P0_ k_ ∨ w.heap.size ≤ k_) ∧ k_ ≠ gb196) u5 x5_1) := ⟨by (with_reducible repeat (first | apply Kd.N_alloc | apply Kd.N_drewN | apply Kd.N_drew)); exact Kd.N_mono (Kd.N_far (p := ⟨gb196, 1, none⟩) (Kd.N_far (p := ⟨gb196, 0, none⟩) (Kd.N_mono HO_5.out (fun k_ hk => (⟨hk, hk.2⟩ : _ ∧ k_ ≠ gb196))) (fun _ hk => hk.2) (.slice A195_0 ((rd_T42 l0 x10_1).f0).length c195_0)) (fun _ hk => hk.2) (.slice A195_1 ((rd_T42 l0 x10_1).f1).length c195_1)) (fun _ hk => ⟨hk.1.1, hk.1.2⟩)⟩
            have n1_ : Aside0 (Kd.V k42 42 ((w13.setCell ⟨gb196, 0, none⟩ (.slice A195_0 ((rd_T42 l0 x10_1).f0).length c195_0)).setCell ⟨gb196, 1, none⟩ (.slice A195_1 ((rd_T42 l0 x10_1).f1).length c195_1)) w.heap.size (fun k_ => (P0_ k_ ∨ w.heap.size ≤ k_) ∧ some k_ ≠ (u5 : Value).ownBlock ∧ k_ ≠ gb196) (.slice (some ad195) l0.length c0) l0) := ⟨by (with_reducible repeat (first | apply Kd.V_alloc | apply Kd.V_drewN | apply Kd.V_drew)); exact Kd.V_mono (Kd.V_far (p := ⟨gb196, 1, none⟩) (Kd.V_far (p := ⟨gb196, 0, none⟩) (Kd.V_mono HO_8.out (fun k_ hk => (⟨hk, hk.2⟩ : _ ∧ k_ ≠ gb196))) (fun _ hk => hk.2) (.slice A195_0 ((rd_T42 l0 x10_1).f0).length c195_0)) (fun _ hk => hk.2) (.slice A195_1 ((rd_T42 l0 x10_1).f1).length c195_1)) (fun _ hk => ⟨hk.1.1.1, ⟨hk.1.1.2, hk.1.2⟩⟩)⟩
            have n2_ : Aside0 (Kd.V (Kd.int .i64) 2 ((w13.setCell ⟨gb196, 0, none⟩ (.slice A195_0 ((rd_T42 l0 x10_1).f0).length c195_0)).setCell ⟨gb196, 1, none⟩ (.slice A195_1 ((rd_T42 l0 x10_1).f1).length c195_1)) w.heap.size (fun k_ => (P0_ k_ ∨ w.heap.size ≤ k_) ∧ some k_ ≠ (u5 : Value).ownBlock ∧ k_ ≠ gb196) (.slice A195_0 ((rd_T42 l0 x10_1).f0).length c195_0) ((rd_T42 l0 x10_1).f0)) := ⟨by (with_reducible repeat (first | apply Kd.V_alloc | apply Kd.V_drewN | apply Kd.V_drew)); exact Kd.V_mono (Kd.V_far (p := ⟨gb196, 1, none⟩) (Kd.V_far (p := ⟨gb196, 0, none⟩) (Kd.V_mono HL195_0.out (fun k_ hk => (⟨hk, hk.2⟩ : _ ∧ k_ ≠ gb196))) (fun _ hk => hk.2) (.slice A195_0 ((rd_T42 l0 x10_1).f0).length c195_0)) (fun _ hk => hk.2) (.slice A195_1 ((rd_T42 l0 x10_1).f1).length c195_1)) (fun _ hk => ⟨hk.1.1.1, ⟨hk.1.1.2, hk.1.2⟩⟩)⟩
            have n3_ : Aside0 (Kd.V (Kd.int .i64) 2 ((w13.setCell ⟨gb196, 0, none⟩ (.slice A195_0 ((rd_T42 l0 x10_1).f0).length c195_0)).setCell ⟨gb196, 1, none⟩ (.slice A195_1 ((rd_T42 l0 x10_1).f1).length c195_1)) w.heap.size (fun k_ => (P0_ k_ ∨ w.heap.size ≤ k_) ∧ some k_ ≠ (u5 : Value).ownBlock ∧ k_ ≠ gb196) (.slice A195_1 ((rd_T42 l0 x10_1).f1).length c195_1) ((rd_T42 l0 x10_1).f1)) := ⟨by (with_reducible repeat (first | apply Kd.V_alloc | apply Kd.V_drewN | apply Kd.V_drew)); exact Kd.V_mono (Kd.V_far (p := ⟨gb196, 1, none⟩) (Kd.V_far (p := ⟨gb196, 0, none⟩) (Kd.V_mono HL195_1.out (fun k_ hk => (⟨hk, hk.2⟩ : _ ∧ k_ ≠ gb196))) (fun _ hk => hk.2) (.slice A195_0 ((rd_T42 l0 x10_1).f0).length c195_0)) (fun _ hk => hk.2) (.slice A195_1 ((rd_T42 l0 x10_1).f1).length c195_1)) (fun _ hk => ⟨hk.1.1.1, ⟨hk.1.1.2, hk.1.2⟩⟩)⟩
            have n4_ : Aside0 (((w13.setCell ⟨gb196, 0, none⟩ (.slice A195_0 ((rd_T42 l0 x10_1).f0).length c195_0)).setCell ⟨gb196, 1, none⟩ (.slice A195_1 ((rd_T42 l0 x10_1).f1).length c195_1)).heap[gb196]? = some (.cells #[.slice A195_0 ((rd_T42 l0 x10_1).f0).length c195_0, .slice A195_1 ((rd_T42 l0 x10_1).f1).length c195_1] 42 (0, 0))) := ⟨by (with_reducible repeat (first | refine yM ?_ _ | refine yO ?_ | refine yN ?_ _)); refine blk_put (cs := #[.slice A195_0 ((rd_T42 l0 x10_1).f0).length c195_0, .slice none 0 0]) ?_ 1 _ rfl; (with_reducible repeat (first | refine yM ?_ _ | refine yO ?_ | refine yN ?_ _)); refine blk_put (cs := #[.slice none 0 0, .slice none 0 0]) ?_ 0 _ rfl; (with_reducible repeat (first | refine yM ?_ _ | refine yO ?_ | refine yN ?_ _)); exact BK196.out⟩
            have n5_ : Aside0 (Below w.heap.size w ((w13.setCell ⟨gb196, 0, none⟩ (.slice A195_0 ((rd_T42 l0 x10_1).f0).length c195_0)).setCell ⟨gb196, 1, none⟩ (.slice A195_1 ((rd_T42 l0 x10_1).f1).length c195_1))) := ⟨kR1 HB⟩
            (try clear HO_5); (try clear HO_8); (try clear HL195_0); (try clear HL195_1); (try clear BK196); (try clear HB)
            generalize ((w13.setCell ⟨gb196, 0, none⟩ (.slice A195_0 ((rd_T42 l0 x10_1).f0).length c195_0)).setCell ⟨gb196, 1, none⟩ (.slice A195_1 ((rd_T42 l0 x10_1).f1).length c195_1)) = w15 at n0_ n1_ n2_ n3_ n4_ n5_ ⊢
            have HO_5 := n0_; have HO_8 := n1_; have HL195_0 := n2_; have HL195_1 := n3_; have BK196 := n4_; have HB := n5_; clear n0_ n1_ n2_ n3_ n4_ n5_
            have n0_ := yD (Kd.N_drew HO_5.out)
            have n1_ := yD (Kd.V_drew HO_8.out)
            have n2_ := yD (Kd.V_drew HL195_0.out)
            have n3_ := yD (Kd.V_drew HL195_1.out)
            have n4_ := yD (yO BK196.out)
            have n5_ := yD (yP HB.out)
            clear HO_5 HO_8 HL195_0 HL195_1 BK196 HB; have HO_5 := n0_; have HO_8 := n1_; have HL195_0 := n2_; have HL195_1 := n3_; have BK196 := n4_; have HB := n5_; clear n0_ n1_ n2_ n3_ n4_ n5_
            have p197 : 0 ≤ (0 : Int) := (by omega)
            have q197 : 0 < (((rd_T42 l0 x10_1).f0).length : Int) := zP (by assumption)
            obtain ⟨ad197, e197, hx197_0⟩ := Kd.at_int ((Kd.V_reads' HL195_0.out).2.2) 0 p197 q197
            cases e197
            have qi197 : (0 < ((rd_T42 l0 x10_1).f0).length) = True := eq_true (by omega)
            (try rw [show ((0 : Int)).toNat = 0 from rfl] at hx197_0)
            (try rw [Addr.add_zero'] at hx197_0)
            replace p197 := eq_true p197; replace q197 := eq_true q197
            have p198 : 0 ≤ (0 : Int) := (by omega)
            have q198 : 0 < (((rd_T42 l0 x10_1).f1).length : Int) := zP (by assumption)
            obtain ⟨ad198, e198, hx198_0⟩ := Kd.at_int ((Kd.V_reads' HL195_1.out).2.2) 0 p198 q198
            cases e198
            have qi198 : (0 < ((rd_T42 l0 x10_1).f1).length) = True := eq_true (by omega)
            (try rw [show ((0 : Int)).toNat = 0 from rfl] at hx198_0)
            (try rw [Addr.add_zero'] at hx198_0)
            replace p198 := eq_true p198; replace q198 := eq_true q198
            refine start_ (n := 11) (S := fun w' => w'.cell? ⟨gb196, 0, none⟩ = some (.slice (some ad197) ((rd_T42 l0 x10_1).f0).length c195_0) ∧ w'.cell? ⟨gb196, 1, none⟩ = some (.slice (some ad198) ((rd_T42 l0 x10_1).f1).length c195_1) ∧ w'.cell? ad197 = some (.int .i64 (rd ((rd_T42 l0 x10_1).f0) 0)) ∧ w'.cell? ad198 = some (.int .i64 (rd ((rd_T42 l0 x10_1).f1) 0))) (ds := []) (bz 11 0) (by kernel_rfl) rfl rfl ⟨(yG BK196.out 0).trans rfl, (yG BK196.out 1).trans rfl, hx197_0, hx198_0⟩ (fun hHeld => ?_); refine with_tabW impl_section.tab5 impl_section.bits5 (fun HT_ HW_ => ?_)
            generalize w15.drew = w16 at HO_5 HO_8 HL195_0 HL195_1 BK196 HB hx197_0 hx198_0 hHeld ⊢
            refine qA 0 14 (bz 11 1) HT_ ?_
            refine qA 1 15 (bz 11 3) HT_ ?_
            refine qA 5 19 (bz 11 35) HT_ ?_
            refine qC 2 16 (bz 11 39) HT_ HW_ hHeld ?_ (hy := by rintro w' ⟨s0, s1, s2, s3⟩; go_simp; with_reducible rfl)
            refine qA 3 17 (bz 11 47) HT_ ?_
            refine qC 4 18 (bz 11 63) HT_ HW_ hHeld ?_ (hy := by rintro w' ⟨s0, s1, s2, s3⟩; go_simp; with_reducible rfl)
            refine qC 6 20 (bz 11 127) HT_ HW_ hHeld ?_ (hy := by rintro w' ⟨s0, s1, s2, s3⟩; go_simp; with_reducible rfl)
            refine qA 7 21 (bz 11 255) HT_ ?_
            refine qC 8 22 (bz 11 511) HT_ HW_ hHeld ?_ (hy := by rintro w' ⟨s0, s1, s2, s3⟩; go_simp; with_reducible rfl)
            refine qA 9 23 (bz 11 1023) HT_ ?_
            refine one_ (i := 10) (N := some 24) (bz 11 2047) rfl rfl (one_of HT_.out (by kernel_rfl)) (by decide) (fun K hK => ?_)
            refine goes_ Try.func106 (by kernel_rfl) rfl #[.int .i64 a1, .int .i64 (rd ((rd_T42 l0 x10_1).f0) 0), .int .i64 (wrap64 ((rd ((rd_T42 l0 x10_1).f1) 0) - 1))] (by rfl) rfl rfl (by (try simp only [zK, zL, zM]); first | done | rfl | (simp only [zN, zO]; rfl)) ?_
            with_reducible refine (impl_within.calls a1 (rd ((rd_T42 l0 x10_1).f0) 0) (wrap64 ((rd ((rd_T42 l0 x10_1).f1) 0) - 1)) true _ A8.out).mono ?_
            rintro e w' ⟨rfl, ⟨nd, rfl⟩⟩
            refine ⟨_, rfl, ?_⟩
            refine hK.out _ _ ⟨(yG BK196.out 0).trans rfl, (yG BK196.out 1).trans rfl, hHeld.2.2.1, hHeld.2.2.2⟩ (fun hHeld => ?_)
            clear hK K
            refine norm_ (a' := ?_) ?_ ?_
            rotate_left
            · show Act.put _ (some 24) _ = _
              simp only [Act.put, zH, zI, zJ, i64_w, i32_w]
              rfl
            refine done_ (done_of HT_.out (by kernel_rfl)) ?_
            try go_wp2
            (try (rw [drewN_self w16]; generalize hq_ : World.drewN w16 _ = w16; have n0_ : Aside0 (Kd.V (Kd.int .i64) 2 w16 w.heap.size (fun k_ => (P0_ k_ ∨ w.heap.size ≤ k_) ∧ some k_ ≠ (u5 : Value).ownBlock ∧ k_ ≠ gb196) (.slice (some ad197) ((rd_T42 l0 x10_1).f0).length c195_0) ((rd_T42 l0 x10_1).f0)) := ⟨by rw [← hq_]; exact (by (with_reducible repeat (first | apply Kd.V_alloc | apply Kd.V_drewN | apply Kd.V_drew)); exact HL195_0.out)⟩; have n1_ : Aside0 (Kd.V (Kd.int .i64) 2 w16 w.heap.size (fun k_ => (P0_ k_ ∨ w.heap.size ≤ k_) ∧ some k_ ≠ (u5 : Value).ownBlock ∧ k_ ≠ gb196) (.slice (some ad198) ((rd_T42 l0 x10_1).f1).length c195_1) ((rd_T42 l0 x10_1).f1)) := ⟨by rw [← hq_]; exact (by (with_reducible repeat (first | apply Kd.V_alloc | apply Kd.V_drewN | apply Kd.V_drew)); exact HL195_1.out)⟩; have n2_ : Aside0 (Kd.N k42 42 w16 w.heap.size (fun k_ => (P0_ k_ ∨ w.heap.size ≤ k_) ∧ k_ ≠ gb196) u5 x5_1) := ⟨by rw [← hq_]; exact (by (with_reducible repeat (first | apply Kd.N_alloc | apply Kd.N_drewN | apply Kd.N_drew)); exact HO_5.out)⟩; have n3_ : Aside0 (Kd.V k42 42 w16 w.heap.size (fun k_ => (P0_ k_ ∨ w.heap.size ≤ k_) ∧ some k_ ≠ (u5 : Value).ownBlock ∧ k_ ≠ gb196) (.slice (some ad195) l0.length c0) l0) := ⟨by rw [← hq_]; exact (by (with_reducible repeat (first | apply Kd.V_alloc | apply Kd.V_drewN | apply Kd.V_drew)); exact HO_8.out)⟩; have n4_ : Aside0 (w16.heap[gb196]? = some (.cells #[.slice (some ad197) ((rd_T42 l0 x10_1).f0).length c195_0, .slice (some ad198) ((rd_T42 l0 x10_1).f1).length c195_1] 42 (0, 0))) := ⟨by rw [← hq_]; exact (kM BK196)⟩; have n5_ : Aside0 (Below w.heap.size w w16) := ⟨by rw [← hq_]; exact (kB HB)⟩; clear HL195_0 HL195_1 HO_5 HO_8 BK196 HB hq_; have HL195_0 := n0_; have HL195_1 := n1_; have HO_5 := n2_; have HO_8 := n3_; have BK196 := n4_; have HB := n5_; clear n0_ n1_ n2_ n3_ n4_ n5_))
            have n0_ := yD (Kd.N_drew HO_5.out)
            have n1_ := yD (Kd.V_drew HO_8.out)
            have n2_ := yD (Kd.V_drew HL195_0.out)
            have n3_ := yD (Kd.V_drew HL195_1.out)
            have n4_ := yD (yO BK196.out)
            have n5_ := yD (yP HB.out)
            clear HO_5 HO_8 HL195_0 HL195_1 BK196 HB; have HO_5 := n0_; have HO_8 := n1_; have HL195_0 := n2_; have HL195_1 := n3_; have BK196 := n4_; have HB := n5_; clear n0_ n1_ n2_ n3_ n4_ n5_
            have q18 : (1 : Int) ≤ ((((rd_T42 l0 x10_1).f0).length : Int) : Int) := zP (by assumption)
            obtain ⟨i018, hi018, _, hsz18, _⟩ := info_parts info2
            have hroom18 : ((rd_T42 l0 x10_1).f0).length ≤ c195_0 := HC195_0.out
            have hC18 : Kd.F (Kd.int .i64) _ _ (some ad197) ((rd_T42 l0 x10_1).f0).length ((rd_T42 l0 x10_1).f0) := (Kd.V_at (base := w.heap.size) HL195_0.out).2.2
            have hcut18 := cut_from (P := Try.prog) 36 2 .i64 Try.underlying36 hi018 1 hsz18 (some ad197) ((rd_T42 l0 x10_1).f0).length c195_0 1 (by omega) q18
            have hr18 := Kd.F_cut (m := (1 : Int).toNat) (c := c195_0) hC18 (by omega) hroom18
            obtain ⟨A18, hA18⟩ : ∃ A1, A1 = (if c195_0 = (1 : Int).toNat then (some ad197) else ((some ad197) : Option Addr).map (·.add ((1 : Int).toNat * 1))) := ⟨_, rfl⟩
            obtain ⟨c18, hc18⟩ : ∃ c1, c1 = c195_0 - (1 : Int).toNat := ⟨_, rfl⟩
            have hy18 : y200.length = ((rd_T42 l0 x10_1).f0).length - (1 : Int).toNat := (by rw [Ny200.out, zN] <;> omega)
            rw [show ((rd_T42 l0 x10_1).f0).drop (1 : Int).toNat = y200 from Ny200.out.symm] at hr18
            replace hr18 : Kd.F (Kd.int .i64) _ _ A18 y200.length y200 := (by rw [hA18]; exact hr18)
            rw [← hy18, ← hA18, ← hc18] at hcut18
            have HO204 := yD (show Kd.V (Kd.int .i64) 2 _ w.heap.size _ (.slice A18 y200.length c18) y200 from Kd.V_mk (by rw [hy18, hc18]; exact Nat.sub_le_sub_right hroom18 _) hr18)
            have HC204 := yD (show y200.length ≤ c18 from by rw [hy18, hc18]; exact Nat.sub_le_sub_right hroom18 _)
            clear hr18 hC18 hroom18 hi018 hsz18 hc18
            have KY18 := yD hy18
            have KA18 := yD hA18
            clear hy18 hA18; replace q18 := eq_true q18
            have q19 : (1 : Int) ≤ ((((rd_T42 l0 x10_1).f1).length : Int) : Int) := zP (by assumption)
            obtain ⟨i019, hi019, _, hsz19, _⟩ := info_parts info2
            have hroom19 : ((rd_T42 l0 x10_1).f1).length ≤ c195_1 := HC195_1.out
            have hC19 : Kd.F (Kd.int .i64) _ _ (some ad198) ((rd_T42 l0 x10_1).f1).length ((rd_T42 l0 x10_1).f1) := (Kd.V_at (base := w.heap.size) HL195_1.out).2.2
            have hcut19 := cut_from (P := Try.prog) 36 2 .i64 Try.underlying36 hi019 1 hsz19 (some ad198) ((rd_T42 l0 x10_1).f1).length c195_1 1 (by omega) q19
            have hr19 := Kd.F_cut (m := (1 : Int).toNat) (c := c195_1) hC19 (by omega) hroom19
            obtain ⟨A19, hA19⟩ : ∃ A1, A1 = (if c195_1 = (1 : Int).toNat then (some ad198) else ((some ad198) : Option Addr).map (·.add ((1 : Int).toNat * 1))) := ⟨_, rfl⟩
            obtain ⟨c19, hc19⟩ : ∃ c1, c1 = c195_1 - (1 : Int).toNat := ⟨_, rfl⟩
            have hy19 : y205.length = ((rd_T42 l0 x10_1).f1).length - (1 : Int).toNat := (by rw [Ny205.out, zN] <;> omega)
            rw [show ((rd_T42 l0 x10_1).f1).drop (1 : Int).toNat = y205 from Ny205.out.symm] at hr19
            replace hr19 : Kd.F (Kd.int .i64) _ _ A19 y205.length y205 := (by rw [hA19]; exact hr19)
            rw [← hy19, ← hA19, ← hc19] at hcut19
            have HO209 := yD (show Kd.V (Kd.int .i64) 2 _ w.heap.size _ (.slice A19 y205.length c19) y205 from Kd.V_mk (by rw [hy19, hc19]; exact Nat.sub_le_sub_right hroom19 _) hr19)
            have HC209 := yD (show y205.length ≤ c19 from by rw [hy19, hc19]; exact Nat.sub_le_sub_right hroom19 _)
            clear hr19 hC19 hroom19 hi019 hsz19 hc19
            have KY19 := yD hy19
            have KA19 := yD hA19
            clear hy19 hA19; replace q19 := eq_true q19
            refine start_ (n := 11) (S := fun w' => w'.cell? ⟨gb196, 0, none⟩ = some (.slice (some ad197) ((rd_T42 l0 x10_1).f0).length c195_0) ∧ w'.cell? ⟨gb196, 1, none⟩ = some (.slice (some ad198) ((rd_T42 l0 x10_1).f1).length c195_1)) (ds := []) (bz 11 0) (by kernel_rfl) rfl rfl ⟨(yG BK196.out 0).trans rfl, (yG BK196.out 1).trans rfl⟩ (fun hHeld => ?_); refine with_tabW impl_section.tab6 impl_section.bits6 (fun HT_ HW_ => ?_)
            generalize w16.drew = w17 at HO_5 HO_8 HL195_0 HL195_1 BK196 HB HO204 HO209 hHeld ⊢
            refine qA 0 25 (bz 11 1) HT_ ?_
            refine qA 1 26 (bz 11 3) HT_ ?_
            refine qA 4 29 (bz 11 19) HT_ ?_
            refine qC 2 27 (bz 11 23) HT_ HW_ hHeld ?_ (hy := by rintro w' ⟨s0, s1⟩; go_simp; with_reducible rfl)
            refine qA 3 28 (bz 11 31) HT_ ?_
            refine qC 5 30 (bz 11 63) HT_ HW_ hHeld ?_ (hy := by rintro w' ⟨s0, s1⟩; go_simp; with_reducible rfl)
            refine qA 6 31 (bz 11 127) HT_ ?_
            refine qA 7 32 (bz 11 255) HT_ ?_
            refine one_ (i := 8) (N := some 33) (bz 11 511) rfl rfl (one_of HT_.out (by kernel_rfl)) (by decide) (fun K hK => ?_)
            refine value_ (w1 := ?_) (v := ?_) (by rfl) rfl ?_ ?_
            rotate_left 2
            · go_simp
              constructor
              · rfl
              · rfl
            refine hK.out _ _ ⟨(yG (yN BK196.out _) 0).trans rfl, (yG (yN BK196.out _) 1).trans rfl⟩ (fun hHeld => ?_)
            clear hK K
            refine norm_ (a' := ?_) ?_ ?_
            rotate_left
            · show Act.put _ (some 33) _ = _
              simp only [Act.put, zH, zI, zJ, i64_w, i32_w]
              rfl
            refine one_ (i := 9) (N := some 34) (bz 11 1023) rfl rfl (one_of HT_.out (by kernel_rfl)) (by decide) (fun K hK => ?_)
            refine Kd.N_append_step k42 (w0 := w) w.heap.size (by rfl) (.tmp 25) (.tmp 33) 24 42 (.agg #[(.slice none 0 0), (.slice none 0 0)]) 48 rfl Try.underlying24 info42 rfl (by decide) (by omega) u5 x5_1 (⟨y200, y205⟩ : S42) [.slice A18 y200.length c18, .slice A19 y205.length c19] (fun k_ => (P0_ k_ ∨ w.heap.size ≤ k_) ∧ k_ ≠ gb196) (fun k_ => ((fun k_ => (P0_ k_ ∨ w.heap.size ≤ k_) ∧ k_ ≠ gb196)) k_ ∧ some k_ ≠ (u5 : Value).ownBlock) rfl rfl ?aP (fun _ hk => hk) ?aF ?aO ?aB ?aS ?aL ?_
            (case aP => exact (k42_mkF _ _ (⟨y200, y205⟩ : S42) (Kd.V_reads' (Kd.V_mono (ok' := (fun k_ => ((fun k_ => (P0_ k_ ∨ w.heap.size ≤ k_) ∧ k_ ≠ gb196)) k_ ∧ some k_ ≠ (u5 : Value).ownBlock)) (HO204.out) (fun k_ hk => ⟨⟨hk.1, hk.2.2⟩, hk.2.1⟩))).2.1 (Kd.V_F (Kd.V_mono (ok' := (fun k_ => ((fun k_ => (P0_ k_ ∨ w.heap.size ≤ k_) ∧ k_ ≠ gb196)) k_ ∧ some k_ ≠ (u5 : Value).ownBlock)) (HO204.out) (fun k_ hk => ⟨⟨hk.1, hk.2.2⟩, hk.2.1⟩))) (Kd.V_reads' (Kd.V_mono (ok' := (fun k_ => ((fun k_ => (P0_ k_ ∨ w.heap.size ≤ k_) ∧ k_ ≠ gb196)) k_ ∧ some k_ ≠ (u5 : Value).ownBlock)) (HO209.out) (fun k_ hk => ⟨⟨hk.1, hk.2.2⟩, hk.2.1⟩))).2.1 (Kd.V_F (Kd.V_mono (ok' := (fun k_ => ((fun k_ => (P0_ k_ ∨ w.heap.size ≤ k_) ∧ k_ ≠ gb196)) k_ ∧ some k_ ≠ (u5 : Value).ownBlock)) (HO209.out) (fun k_ hk => ⟨⟨hk.1, hk.2.2⟩, hk.2.1⟩)))))
            (case aB => exact (kB HB))
            (case aF => exact (fun k_ hk => ⟨(.inr (Nat.le_trans (below_size (kB HB)) hk)), Kd.freshB (g := gb196) (o := .cells #[.slice (some ad197) ((rd_T42 l0 x10_1).f0).length c195_0, .slice (some ad198) ((rd_T42 l0 x10_1).f1).length c195_1] 42 (0, 0)) (kM BK196) k_ hk⟩))
            (case aO => exact (by (with_reducible repeat (first | apply Kd.N_alloc | apply Kd.N_drewN | apply Kd.N_drew)); exact HO_5.out))
            (case aS => exact (below_size (kB HB)))
            (case aL => have := LMc12.out; omega)
            intro v211 w20 ho hb hg hat
            rw [← Ny210.out] at ho
            have n0_ := yD (Kd.V_afterv (ok := (fun k_ => (P0_ k_ ∨ w.heap.size ≤ k_) ∧ k_ ≠ gb196)) (by (with_reducible repeat (first | apply Kd.V_alloc | apply Kd.V_drewN | apply Kd.V_drew)); exact Kd.V_mono HO_8.out (fun _ hk => ⟨⟨hk.1, hk.2.2⟩, hk.2.1⟩)) hg hat)
            have n1_ := yD (Kd.V_afterv (ok := (fun k_ => (P0_ k_ ∨ w.heap.size ≤ k_) ∧ k_ ≠ gb196)) (by (with_reducible repeat (first | apply Kd.V_alloc | apply Kd.V_drewN | apply Kd.V_drew)); exact Kd.V_mono HL195_0.out (fun _ hk => ⟨⟨hk.1, hk.2.2⟩, hk.2.1⟩)) hg hat)
            have n2_ := yD (Kd.V_afterv (ok := (fun k_ => (P0_ k_ ∨ w.heap.size ≤ k_) ∧ k_ ≠ gb196)) (by (with_reducible repeat (first | apply Kd.V_alloc | apply Kd.V_drewN | apply Kd.V_drew)); exact Kd.V_mono HL195_1.out (fun _ hk => ⟨⟨hk.1, hk.2.2⟩, hk.2.1⟩)) hg hat)
            have n3_ := yD (blk_grown (g := gb196) (o := .cells #[.slice (some ad197) ((rd_T42 l0 x10_1).f0).length c195_0, .slice (some ad198) ((rd_T42 l0 x10_1).f1).length c195_1] 42 (0, 0)) (kM BK196) hg (Kd.N_away HO_5.out (fun _ hk => hk.2)))
            have n4_ := yD (Kd.V_afterv (ok := (fun k_ => (P0_ k_ ∨ w.heap.size ≤ k_) ∧ k_ ≠ gb196)) (by (with_reducible repeat (first | apply Kd.V_alloc | apply Kd.V_drewN | apply Kd.V_drew)); exact Kd.V_mono HO204.out (fun _ hk => ⟨⟨hk.1, hk.2.2⟩, hk.2.1⟩)) hg hat)
            have n5_ := yD (Kd.V_afterv (ok := (fun k_ => (P0_ k_ ∨ w.heap.size ≤ k_) ∧ k_ ≠ gb196)) (by (with_reducible repeat (first | apply Kd.V_alloc | apply Kd.V_drewN | apply Kd.V_drew)); exact Kd.V_mono HO209.out (fun _ hk => ⟨⟨hk.1, hk.2.2⟩, hk.2.1⟩)) hg hat)
            have n6_ := yD (hb)
            have n7_ := yD (ho)
            clear HO_8 HL195_0 HL195_1 BK196 HO204 HO209 HB HO_5; have HO_8 := n0_; have HL195_0 := n1_; have HL195_1 := n2_; have BK196 := n3_; have HO204 := n4_; have HO209 := n5_; have HB := n6_; have HO212 := n7_; clear n0_ n1_ n2_ n3_ n4_ n5_ n6_ n7_ ho hb hg hat
            refine hK.out _ _ ⟨(yG BK196.out 0).trans rfl, (yG BK196.out 1).trans rfl⟩ (fun hHeld => ?_)
            clear hK K
            refine norm_ (a' := ?_) ?_ ?_
            rotate_left
            · show Act.put _ (some 34) _ = _
              simp only [Act.put, zH, zI, zJ, i64_w, i32_w]
              rfl
            refine qA 10 5 (bz 11 2047) HT_ ?_
            refine done_ (done_of HT_.out (by kernel_rfl)) ?_
            try go_wp2
            go_roundg k1
            case measure => have := HK1.out; omega
            case rel => exact ⟨(y210), (wrap64 (x10_1 + 1)), (by first | rfl | (simp; done) | (simp [*]; done)), H', ⟨by have := HK1.out; omega⟩, ⟨by (with_reducible repeat (first | apply Kd.N_alloc | apply Kd.N_drewN | apply Kd.N_drew)); exact Kd.N_mono HO212.out (fun _ hk => hk.1)⟩, ⟨by (with_reducible repeat (first | apply Kd.V_alloc | apply Kd.V_drewN | apply Kd.V_drew)); exact Kd.V_mono HO_8.out (fun _ hk => ⟨hk.1.1, hk.2⟩)⟩, ⟨kR1 HB⟩⟩
           · rw [if_neg c12] at H
             exact absurd H (by simp)
          · rw [if_neg c11] at H
            exact absurd H (by simp)
         · rw [if_neg c10] at H
           exact absurd H (by simp)
        ·
         replace c9 := Bool.eq_false_iff.mpr c9
         subst c9
         have H1 : (impl_section.l0 k1 a1 x5_1 l0 (l0.length : Int) (wrap64 (x10_1 + 1))) = some r := by rw [if_neg (show ¬ (false = true) by decide)] at H; exact H
         clear H; have H := H1; clear H1
         have H' := yD H
         clear H
         have p195 : 0 ≤ (x10_1 : Int) := zP (by assumption)
         have q195 : x10_1 < (l0.length : Int) := zP (by assumption)
         obtain ⟨ad195, A195_0, c195_0, A195_1, c195_1, e195, hx195_0, hx195_1, hl195_0, hi195_0, hl195_1, hi195_1⟩ := at_T42 (Kd.V_reads' HO_8.out).2.2 x10_1 p195 q195
         cases e195
         obtain ⟨ce195, hce195, hMe195, hcc195⟩ := Kd.V_get HO_8.out z42 x10_1 p195 (by first | exact q195 | exact zP (by assumption) | (have e_ := (Kd.V_reads' HO_8.out).1; omega))
         obtain ⟨ua195_0, uc195_0, ua195_1, uc195_1, rfl, ul195_0, ge195_0, ul195_1, ge195_1⟩ := k42_openF hMe195
         have hv195_0 := hcc195 0 _ rfl
         rw [Nat.add_zero] at hv195_0
         replace hv195_0 := Option.some.inj (hv195_0.symm.trans hx195_0)
         injection hv195_0 with hva_ hvn_ hvc_
         rw [hva_] at ge195_0
         rw [hvc_] at ul195_0
         have HL195_0 := yD (show Kd.V (Kd.int .i64) 2 _ w.heap.size _ _ ((rd_T42 l0 x10_1).f0) from Kd.V_mk ul195_0 ge195_0)
         clear hva_ hvn_ hvc_ ge195_0 ul195_0
         have hv195_1 := hcc195 1 _ rfl
         rw [add_field _ _ 1 (by omega)] at hv195_1
         replace hv195_1 := Option.some.inj (hv195_1.symm.trans hx195_1)
         injection hv195_1 with hva_ hvn_ hvc_
         rw [hva_] at ge195_1
         rw [hvc_] at ul195_1
         have HL195_1 := yD (show Kd.V (Kd.int .i64) 2 _ w.heap.size _ _ ((rd_T42 l0 x10_1).f1) from Kd.V_mk ul195_1 ge195_1)
         clear hva_ hvn_ hvc_ ge195_1 ul195_1 hcc195 hce195
         have HR195_0 := yD hi195_0
         have HC195_0 := yD hl195_0
         clear hi195_0 hl195_0
         have HR195_1 := yD hi195_1
         have HC195_1 := yD hl195_1
         clear hi195_1 hl195_1; replace p195 := eq_true p195; replace q195 := eq_true q195
         try go_wp2_with (first | ((with_reducible refine gate_dst (N := 7) rfl ?_); refine box_event ?hg (N := 7) ?hd (cs := #[.slice none 0 0, .slice none 0 0]) (t := 42) ?hr ?_; (case hd => rfl); (case hg => rfl); (case hr => first | (go_simp; done) | (go_simp; rfl)); intro gb196 hg w21 hbox hb; have n0_ := yD (Kd.N_below (Kd.N_elderB (by (with_reducible repeat (first | apply Kd.N_alloc | apply Kd.N_drewN | apply Kd.N_drew)); exact HO_5.out) gb196 (Nat.le_of_eq hg.symm)) hb); have n1_ := yD (Kd.V_below (Kd.V_elderB (by (with_reducible repeat (first | apply Kd.V_alloc | apply Kd.V_drewN | apply Kd.V_drew)); exact HO_8.out) gb196 (Nat.le_of_eq hg.symm)) hb); have n2_ := yD (Kd.V_below (Kd.V_elderB (by (with_reducible repeat (first | apply Kd.V_alloc | apply Kd.V_drewN | apply Kd.V_drew)); exact HL195_0.out) gb196 (Nat.le_of_eq hg.symm)) hb); have n3_ := yD (Kd.V_below (Kd.V_elderB (by (with_reducible repeat (first | apply Kd.V_alloc | apply Kd.V_drewN | apply Kd.V_drew)); exact HL195_1.out) gb196 (Nat.le_of_eq hg.symm)) hb); have n4_ := yD (yY (by repeat (first | (with_reducible exact HR195_0.out) | (with_reducible first | refine yV ?_ _ | refine yW ?_ _ | refine yX ?_) | exact HR195_0.out)) hb); have n5_ := yD (yY (by repeat (first | (with_reducible exact HR195_1.out) | (with_reducible first | refine yV ?_ _ | refine yW ?_ _ | refine yX ?_) | exact HR195_1.out)) hb); have n6_ := yD (zC (kB HB) hb); have n7_ := yD (hbox); have n8_ := yD ((by rw [hg]; exact (below_size (kB HB)) : w.heap.size ≤ gb196)); have n9_ := yD ((by rw [hg]; exact (below_size (kB HB)) : w.heap.size ≤ gb196)); clear HO_5; clear HO_8; clear HL195_0; clear HL195_1; clear HR195_0; clear HR195_1; clear HB; have HO_5 := n0_; have HO_8 := n1_; have HL195_0 := n2_; have HL195_1 := n3_; have HR195_0 := n4_; have HR195_1 := n5_; have HB := n6_; have BK196 := n7_; have GW196 := n8_; have GE196 := n9_; clear n0_ n1_ n2_ n3_ n4_ n5_ n6_ n7_ n8_ n9_; clear hb hbox hg; obtain ⟨hcz22_0, hcz22_1⟩ := cz2 BK196.out; obtain ⟨hfz22_0, hfz22_1⟩ := fz2 BK196.out))
         have n0_ : Aside0 (Kd.N k42 42 ((w21.setCell ⟨gb196, 0, none⟩ (.slice A195_0 ((rd_T42 l0 x10_1).f0).length c195_0)).setCell ⟨gb196, 1, none⟩ (.slice A195_1 ((rd_T42 l0 x10_1).f1).length c195_1)) w.heap.size (fun k_ => (P0_ k_ ∨ w.heap.size ≤ k_) ∧ k_ ≠ gb196) u5 x5_1) := ⟨by (with_reducible repeat (first | apply Kd.N_alloc | apply Kd.N_drewN | apply Kd.N_drew)); exact Kd.N_mono (Kd.N_far (p := ⟨gb196, 1, none⟩) (Kd.N_far (p := ⟨gb196, 0, none⟩) (Kd.N_mono HO_5.out (fun k_ hk => (⟨hk, hk.2⟩ : _ ∧ k_ ≠ gb196))) (fun _ hk => hk.2) (.slice A195_0 ((rd_T42 l0 x10_1).f0).length c195_0)) (fun _ hk => hk.2) (.slice A195_1 ((rd_T42 l0 x10_1).f1).length c195_1)) (fun _ hk => ⟨hk.1.1, hk.1.2⟩)⟩
         have n1_ : Aside0 (Kd.V k42 42 ((w21.setCell ⟨gb196, 0, none⟩ (.slice A195_0 ((rd_T42 l0 x10_1).f0).length c195_0)).setCell ⟨gb196, 1, none⟩ (.slice A195_1 ((rd_T42 l0 x10_1).f1).length c195_1)) w.heap.size (fun k_ => (P0_ k_ ∨ w.heap.size ≤ k_) ∧ some k_ ≠ (u5 : Value).ownBlock ∧ k_ ≠ gb196) (.slice (some ad195) l0.length c0) l0) := ⟨by (with_reducible repeat (first | apply Kd.V_alloc | apply Kd.V_drewN | apply Kd.V_drew)); exact Kd.V_mono (Kd.V_far (p := ⟨gb196, 1, none⟩) (Kd.V_far (p := ⟨gb196, 0, none⟩) (Kd.V_mono HO_8.out (fun k_ hk => (⟨hk, hk.2⟩ : _ ∧ k_ ≠ gb196))) (fun _ hk => hk.2) (.slice A195_0 ((rd_T42 l0 x10_1).f0).length c195_0)) (fun _ hk => hk.2) (.slice A195_1 ((rd_T42 l0 x10_1).f1).length c195_1)) (fun _ hk => ⟨hk.1.1.1, ⟨hk.1.1.2, hk.1.2⟩⟩)⟩
         have n2_ : Aside0 (Kd.V (Kd.int .i64) 2 ((w21.setCell ⟨gb196, 0, none⟩ (.slice A195_0 ((rd_T42 l0 x10_1).f0).length c195_0)).setCell ⟨gb196, 1, none⟩ (.slice A195_1 ((rd_T42 l0 x10_1).f1).length c195_1)) w.heap.size (fun k_ => (P0_ k_ ∨ w.heap.size ≤ k_) ∧ some k_ ≠ (u5 : Value).ownBlock ∧ k_ ≠ gb196) (.slice A195_0 ((rd_T42 l0 x10_1).f0).length c195_0) ((rd_T42 l0 x10_1).f0)) := ⟨by (with_reducible repeat (first | apply Kd.V_alloc | apply Kd.V_drewN | apply Kd.V_drew)); exact Kd.V_mono (Kd.V_far (p := ⟨gb196, 1, none⟩) (Kd.V_far (p := ⟨gb196, 0, none⟩) (Kd.V_mono HL195_0.out (fun k_ hk => (⟨hk, hk.2⟩ : _ ∧ k_ ≠ gb196))) (fun _ hk => hk.2) (.slice A195_0 ((rd_T42 l0 x10_1).f0).length c195_0)) (fun _ hk => hk.2) (.slice A195_1 ((rd_T42 l0 x10_1).f1).length c195_1)) (fun _ hk => ⟨hk.1.1.1, ⟨hk.1.1.2, hk.1.2⟩⟩)⟩
         have n3_ : Aside0 (Kd.V (Kd.int .i64) 2 ((w21.setCell ⟨gb196, 0, none⟩ (.slice A195_0 ((rd_T42 l0 x10_1).f0).length c195_0)).setCell ⟨gb196, 1, none⟩ (.slice A195_1 ((rd_T42 l0 x10_1).f1).length c195_1)) w.heap.size (fun k_ => (P0_ k_ ∨ w.heap.size ≤ k_) ∧ some k_ ≠ (u5 : Value).ownBlock ∧ k_ ≠ gb196) (.slice A195_1 ((rd_T42 l0 x10_1).f1).length c195_1) ((rd_T42 l0 x10_1).f1)) := ⟨by (with_reducible repeat (first | apply Kd.V_alloc | apply Kd.V_drewN | apply Kd.V_drew)); exact Kd.V_mono (Kd.V_far (p := ⟨gb196, 1, none⟩) (Kd.V_far (p := ⟨gb196, 0, none⟩) (Kd.V_mono HL195_1.out (fun k_ hk => (⟨hk, hk.2⟩ : _ ∧ k_ ≠ gb196))) (fun _ hk => hk.2) (.slice A195_0 ((rd_T42 l0 x10_1).f0).length c195_0)) (fun _ hk => hk.2) (.slice A195_1 ((rd_T42 l0 x10_1).f1).length c195_1)) (fun _ hk => ⟨hk.1.1.1, ⟨hk.1.1.2, hk.1.2⟩⟩)⟩
         have n4_ : Aside0 (((w21.setCell ⟨gb196, 0, none⟩ (.slice A195_0 ((rd_T42 l0 x10_1).f0).length c195_0)).setCell ⟨gb196, 1, none⟩ (.slice A195_1 ((rd_T42 l0 x10_1).f1).length c195_1)).heap[gb196]? = some (.cells #[.slice A195_0 ((rd_T42 l0 x10_1).f0).length c195_0, .slice A195_1 ((rd_T42 l0 x10_1).f1).length c195_1] 42 (0, 0))) := ⟨by (with_reducible repeat (first | refine yM ?_ _ | refine yO ?_ | refine yN ?_ _)); refine blk_put (cs := #[.slice A195_0 ((rd_T42 l0 x10_1).f0).length c195_0, .slice none 0 0]) ?_ 1 _ rfl; (with_reducible repeat (first | refine yM ?_ _ | refine yO ?_ | refine yN ?_ _)); refine blk_put (cs := #[.slice none 0 0, .slice none 0 0]) ?_ 0 _ rfl; (with_reducible repeat (first | refine yM ?_ _ | refine yO ?_ | refine yN ?_ _)); exact BK196.out⟩
         have n5_ : Aside0 (Below w.heap.size w ((w21.setCell ⟨gb196, 0, none⟩ (.slice A195_0 ((rd_T42 l0 x10_1).f0).length c195_0)).setCell ⟨gb196, 1, none⟩ (.slice A195_1 ((rd_T42 l0 x10_1).f1).length c195_1))) := ⟨kR1 HB⟩
         (try clear HO_5); (try clear HO_8); (try clear HL195_0); (try clear HL195_1); (try clear BK196); (try clear HB)
         generalize ((w21.setCell ⟨gb196, 0, none⟩ (.slice A195_0 ((rd_T42 l0 x10_1).f0).length c195_0)).setCell ⟨gb196, 1, none⟩ (.slice A195_1 ((rd_T42 l0 x10_1).f1).length c195_1)) = w23 at n0_ n1_ n2_ n3_ n4_ n5_ ⊢
         have HO_5 := n0_; have HO_8 := n1_; have HL195_0 := n2_; have HL195_1 := n3_; have BK196 := n4_; have HB := n5_; clear n0_ n1_ n2_ n3_ n4_ n5_
         have n0_ := yD (Kd.N_drew HO_5.out)
         have n1_ := yD (Kd.V_drew HO_8.out)
         have n2_ := yD (Kd.V_drew HL195_0.out)
         have n3_ := yD (Kd.V_drew HL195_1.out)
         have n4_ := yD (yO BK196.out)
         have n5_ := yD (yP HB.out)
         clear HO_5 HO_8 HL195_0 HL195_1 BK196 HB; have HO_5 := n0_; have HO_8 := n1_; have HL195_0 := n2_; have HL195_1 := n3_; have BK196 := n4_; have HB := n5_; clear n0_ n1_ n2_ n3_ n4_ n5_
         have p197 : 0 ≤ (0 : Int) := (by omega)
         have q197 : 0 < (((rd_T42 l0 x10_1).f0).length : Int) := zP (by assumption)
         obtain ⟨ad197, e197, hx197_0⟩ := Kd.at_int ((Kd.V_reads' HL195_0.out).2.2) 0 p197 q197
         cases e197
         have qi197 : (0 < ((rd_T42 l0 x10_1).f0).length) = True := eq_true (by omega)
         (try rw [show ((0 : Int)).toNat = 0 from rfl] at hx197_0)
         (try rw [Addr.add_zero'] at hx197_0)
         replace p197 := eq_true p197; replace q197 := eq_true q197
         have p198 : 0 ≤ (0 : Int) := (by omega)
         have q198 : 0 < (((rd_T42 l0 x10_1).f1).length : Int) := zP (by assumption)
         obtain ⟨ad198, e198, hx198_0⟩ := Kd.at_int ((Kd.V_reads' HL195_1.out).2.2) 0 p198 q198
         cases e198
         have qi198 : (0 < ((rd_T42 l0 x10_1).f1).length) = True := eq_true (by omega)
         (try rw [show ((0 : Int)).toNat = 0 from rfl] at hx198_0)
         (try rw [Addr.add_zero'] at hx198_0)
         replace p198 := eq_true p198; replace q198 := eq_true q198
         refine start_ (n := 11) (S := fun w' => w'.cell? ⟨gb196, 0, none⟩ = some (.slice (some ad197) ((rd_T42 l0 x10_1).f0).length c195_0) ∧ w'.cell? ⟨gb196, 1, none⟩ = some (.slice (some ad198) ((rd_T42 l0 x10_1).f1).length c195_1) ∧ w'.cell? ad197 = some (.int .i64 (rd ((rd_T42 l0 x10_1).f0) 0)) ∧ w'.cell? ad198 = some (.int .i64 (rd ((rd_T42 l0 x10_1).f1) 0))) (ds := []) (bz 11 0) (by kernel_rfl) rfl rfl ⟨(yG BK196.out 0).trans rfl, (yG BK196.out 1).trans rfl, hx197_0, hx198_0⟩ (fun hHeld => ?_); refine with_tabW impl_section.tab5 impl_section.bits5 (fun HT_ HW_ => ?_)
         generalize w23.drew = w24 at HO_5 HO_8 HL195_0 HL195_1 BK196 HB hx197_0 hx198_0 hHeld ⊢
         refine qA 0 14 (bz 11 1) HT_ ?_
         refine qA 1 15 (bz 11 3) HT_ ?_
         refine qA 5 19 (bz 11 35) HT_ ?_
         refine qC 2 16 (bz 11 39) HT_ HW_ hHeld ?_ (hy := by rintro w' ⟨s0, s1, s2, s3⟩; go_simp; with_reducible rfl)
         refine qA 3 17 (bz 11 47) HT_ ?_
         refine qC 4 18 (bz 11 63) HT_ HW_ hHeld ?_ (hy := by rintro w' ⟨s0, s1, s2, s3⟩; go_simp; with_reducible rfl)
         refine qC 6 20 (bz 11 127) HT_ HW_ hHeld ?_ (hy := by rintro w' ⟨s0, s1, s2, s3⟩; go_simp; with_reducible rfl)
         refine qA 7 21 (bz 11 255) HT_ ?_
         refine qC 8 22 (bz 11 511) HT_ HW_ hHeld ?_ (hy := by rintro w' ⟨s0, s1, s2, s3⟩; go_simp; with_reducible rfl)
         refine qA 9 23 (bz 11 1023) HT_ ?_
         refine one_ (i := 10) (N := some 24) (bz 11 2047) rfl rfl (one_of HT_.out (by kernel_rfl)) (by decide) (fun K hK => ?_)
         refine goes_ Try.func106 (by kernel_rfl) rfl #[.int .i64 a1, .int .i64 (rd ((rd_T42 l0 x10_1).f0) 0), .int .i64 (wrap64 ((rd ((rd_T42 l0 x10_1).f1) 0) - 1))] (by rfl) rfl rfl (by (try simp only [zK, zL, zM]); first | done | rfl | (simp only [zN, zO]; rfl)) ?_
         with_reducible refine (impl_within.calls a1 (rd ((rd_T42 l0 x10_1).f0) 0) (wrap64 ((rd ((rd_T42 l0 x10_1).f1) 0) - 1)) false _ A8.out).mono ?_
         rintro e w' ⟨rfl, ⟨nd, rfl⟩⟩
         refine ⟨_, rfl, ?_⟩
         refine hK.out _ _ ⟨(yG BK196.out 0).trans rfl, (yG BK196.out 1).trans rfl, hHeld.2.2.1, hHeld.2.2.2⟩ (fun hHeld => ?_)
         clear hK K
         refine norm_ (a' := ?_) ?_ ?_
         rotate_left
         · show Act.put _ (some 24) _ = _
           simp only [Act.put, zH, zI, zJ, i64_w, i32_w]
           rfl
         refine done_ (done_of HT_.out (by kernel_rfl)) ?_
         try go_wp2
         go_roundg k1
         case measure => have := HK1.out; omega
         case rel => exact ⟨(x5_1), (wrap64 (x10_1 + 1)), (by first | rfl | (simp; done) | (simp [*]; done)), H', ⟨by have := HK1.out; omega⟩, ⟨by (with_reducible repeat (first | apply Kd.N_alloc | apply Kd.N_drewN | apply Kd.N_drew)); exact Kd.N_mono HO_5.out (fun _ hk => hk.1)⟩, ⟨by (with_reducible repeat (first | apply Kd.V_alloc | apply Kd.V_drewN | apply Kd.V_drew)); exact Kd.V_mono HO_8.out (fun _ hk => ⟨hk.1, hk.2.1⟩)⟩, ⟨kR1 HB⟩⟩
       · rw [if_neg c7] at H
         exact absurd H (by simp)
      · rw [if_neg c6] at H
        exact absurd H (by simp)
     · rw [if_neg c5] at H
       exact absurd H (by simp)
    · rw [if_neg c4] at H
      exact absurd H (by simp)
   · rw [if_neg c3] at H
     have c3b0 : decide (x10_1 < (l0.length : Int)) = false := zS c3; clear c3; obtain rfl := Option.some.inj H
     go_wp2
     go_ret
     exact ⟨_, by first | rfl | (simp <;> rfl) | (simp [*] <;> rfl), by (with_reducible repeat (first | apply Kd.N_alloc | apply Kd.N_drewN | apply Kd.N_drew)); exact HO_5.out, kR0 HB⟩

end Go.Proofs.Ytdiaebjbiddefaa.PFnNormalForm
