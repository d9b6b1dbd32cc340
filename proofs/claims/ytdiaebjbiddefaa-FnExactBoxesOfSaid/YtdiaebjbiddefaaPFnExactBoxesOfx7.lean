/- Each function here comes to its plain form. It holds without a condition. -/
import Derived.Test.YtdiaebjbiddefaaPFnExactBoxesOfx0
import Derived.Test.YtdiaebjbiddefaaPFnExactBoxesOfx4
import Derived.Test.YtdiaebjbiddefaaPFnExactBoxesOfx5
import Derived.Test.YtdiaebjbiddefaaPFnExactBoxesOfx6
namespace Go.Proofs.Ytdiaebjbiddefaa.PFnExactBoxesOf
open Go.RowKit Go.Proofs.YtdiaebjbiddefaaW.PrintWords Go.Proofs.YtdiaebjbiddefaaW.PrintLast Go.Proofs.YtdiaebjbiddefaaW.PrintMore
attribute [local go_sem] max2_int min2_int max_two min_two max_three min_three max_four min_four   -- for this text's walks alone
set_option linter.unusedVariables false
set_option linter.unusedSimpArgs false
set_option maxHeartbeats 8000000
set_option maxRecDepth 100000

section
variable {P : Program} {ops : Array Oper} {rest : List Oper} {o : Oper} {a : Act} {Q : Exit → Act → World → Prop} {α : Type}
open Go.Proofs.YtdiaebjbiddefaaW.PrintWords.Kd in
/-- append(v, ys...): rows that are new and apart, ys' blocks (okp) none of v's. -/
theorem S_append_rows (d : Kd α) {w0 W : World} (base : Nat) (hgd : o.guard = none) (s x : Operand) (t e : TypeId) (z : Value) (bytes : Nat)
 (ho : o.op = .call { callee := .builtin .append, args := #[s, x], argTypes := #[t, t] })
 (ht : P.underlying t = some (.slice e)) (hinfo : (P.info? e).map (fun i => (i.zero, i.size, i.bytes)) = some (some z, d.sz, bytes)) (hz : z.cells.size = d.sz) (hs0 : 0 < d.sz) (hb0 : 0 < bytes)
 (v : Value) (xs ys : List α) (A : Option Addr) (m c : Nat) (ok okp : Nat → Prop) (hs : a.eval s = v) (hx : a.eval x = .slice A m c)
 (HO : Kd.S d e W base (fun k => ok k ∧ ¬ okp k) v xs) (HR : Kd.S d e W base okp (.slice A m c) ys) (hokp : ∀ k, okp k → ok k ∧ some k ≠ v.ownBlock) (hfresh : ∀ k, W.heap.size ≤ k → ok k)
 (HB : Below base w0 W) (hbase : base ≤ W.heap.size) (hl : (xs.length + m) * bytes ≤ 140737488355328)
 (h : ∀ v1 w1, Kd.S d e w1 base ok v1 (xs ++ ys) → Below base w0 w1 → W.grownBy w1 v.ownBlock → (v1.ownBlock = v.ownBlock ∨ ∃ b, v1.ownBlock = some b ∧ W.heap.size ≤ b) → wpList P ops Q rest (a.put o.dst v1) w1) :
 wpList P ops Q (o :: rest) a W := by
 obtain ⟨f1, h1⟩ := HO
 obtain ⟨f2, h2⟩ := HR
 obtain ⟨A', c', he, -, hr⟩ := OwnRow.reads h2.2
 injection he with e1 e2 _
 subst e1
 rw [List.length_zipIdx] at e2 hr
 subst e2
 have g1 : (tag (fun k => open Classical in if okp k then xs.length + f2 k else f1 k) d).R e W base (fun k => ok k ∧ ¬ okp k) v xs.zipIdx := R_tag h1 (fun k hk _ => if_neg hk.2)
 have g2 : ReadsRow ((tag (fun k => open Classical in if okp k then xs.length + f2 k else f1 k) d).M W base okp) d.sz W A ys.length (ys.zipIdx xs.length) := by
  refine ⟨by rw [List.length_zipIdx], hr.2.1, fun hp => ?_⟩
  obtain ⟨ad, e, hc⟩ := hr.2.2 hp
  refine ⟨ad, e, fun j p hj => ?_⟩
  rw [List.getElem?_zipIdx] at hj
  obtain ⟨y, hy, rfl⟩ := Option.map_eq_some_iff.1 hj
  obtain ⟨cc, hs, hM, hcell⟩ := hc j (y, j) (zip_at hy)
  exact ⟨cc, hs, d.M_mono (fun k hk => ⟨hk.1.1, (if_pos hk.1.1).trans (by rw [hk.2])⟩) hM, hcell⟩
 refine R_append_rows (tag _ d) base hgd s x t e z bytes ho ht hinfo hz hs0 hb0 v xs.zipIdx (ys.zipIdx xs.length) A _ c ok okp hs hx (R_mono g1 (fun _ hk => hk.1)) g2 (fun _ _ h => h) hokp hfresh HB hbase (by rw [List.length_zipIdx]; exact hl) ?_
 intro v1 w1 hr1 hb hg hat
 rw [show xs.zipIdx ++ ys.zipIdx xs.length = (xs ++ ys).zipIdx by rw [List.zipIdx_append]; simp] at hr1
 exact h v1 w1 ⟨_, hr1⟩ hb hg hat
/-- What is made by a call is new: it is apart from what was there. -/
theorem S_pair {α β : Type} {d : Kd α} {d' : Kd β} {e e' base : Nat} {W w1 : World} {okx oky : Nat → Prop} {u v : Value} {xs : List α} {ys : List β} (hx : Kd.S d e W base okx u xs) (hb : Below W.heap.size W w1) (hy : Kd.S d' e' w1 W.heap.size oky v ys) (hle : base ≤ W.heap.size) :
 ∃ N, Kd.S d e w1 base (fun k => okx k ∧ k < N) u xs ∧ Kd.S d' e' w1 base (fun k => oky k ∧ N ≤ k) v ys :=
 ⟨W.heap.size, Kd.S_old hx hb, Kd.S_lower (Kd.S_mono (Kd.S_bound hy) (fun k hk => ⟨hk.1, hk.2.1⟩)) hle⟩
end
/-! ### impl_combined_impl_either: function 87 -/
mutual
def impl_combined_impl_either.j0 : Nat → Int → List (S42) → List (S42) → Bool → Option ((List (S42)))
 | 0, _, _, _, _ => none
 | k + 1, x0, x1, x2, x33 => if x33 = true then (some ([] : List (S42))) else (impl_combined_impl_either.l0 k x0 x1 x2 ([] : List (S42)) ([] : List (S42)) 0 0)
def impl_combined_impl_either.l0 : Nat → Int → List (S42) → List (S42) → List (S42) → List (S42) → Int → Int → Option ((List (S42)))
 | 0, _, _, _, _, _, _, _ => none
 | k + 1, x0, x1, x2, x9, x10, x11, x34 => if x34 < 41 then (if x34 < 40 then ((impl_section.f k x1 x34).bind fun t593 => ((impl_section.f k x2 x34).bind fun t596 => ((impl_combined_impl_either.f k (wrap64 (x0 - 1)) t593 t596).bind fun t599 => (impl_combined_impl_either.j2 k x0 x1 x2 x9 x10 x11 x34 t599 x34)))) else (impl_combined_impl_either.j2 k x0 x1 x2 x9 x10 x11 x34 ([] : List (S42)) x34)) else (some x9)
def impl_combined_impl_either.j2 : Nat → Int → List (S42) → List (S42) → List (S42) → List (S42) → Int → Int → List (S42) → Int → Option ((List (S42)))
 | 0, _, _, _, _, _, _, _, _, _ => none
 | k + 1, x0, x1, x2, x9, x10, x11, x12, x13, x34 => (impl_SameBoxes.f k x13 x10).bind fun t602 => (if t602 = true then (impl_combined_impl_either.l0 k x0 x1 x2 x9 x10 x11 (wrap64 (x34 + 1))) else ((impl_prefixed.f k x10 x11 x12).bind fun t603 => (if x9.length + t603.length < 2932031007402 then (impl_combined_impl_either.l0 k x0 x1 x2 (x9 ++ t603) x13 x12 (wrap64 (x34 + 1))) else (none))))
def impl_combined_impl_either.f : Nat → Int → List (S42) → List (S42) → Option ((List (S42)))
 | 0, _, _, _ => none
 | k + 1, a0, l1, l2 => if a0 = 0 then ((impl_either.f (decide ((l1.length : Int) > 0)) (decide ((l2.length : Int) > 0))).bind fun t589 => (if t589 = true then (some (([(⟨([] : List Int), ([] : List Int)⟩ : S42)] : List (S42)))) else (some ([] : List (S42))))) else (if (l1.length : Int) = 0 then (impl_combined_impl_either.j0 k a0 l1 l2 ((l2.length : Int) == 0)) else (impl_combined_impl_either.j0 k a0 l1 l2 false))
end
theorem impl_combined_impl_either.calls (k : Nat) : ∀ (a0 : Int) (A1 : Option Addr) (c1 : Nat) (l1 : List (S42)) (A2 : Option Addr) (c2 : Nat) (l2 : List (S42))  (r : List (S42)) (w : World) (hr1 : Kd.C k42 w A1 l1.length l1) (hc1 : l1.length ≤ c1) (hr2 : Kd.C k42 w A2 l2.length l2) (hc2 : l2.length ≤ c2) (h : impl_combined_impl_either.f k a0 l1 l2 = some r),
 Calls Try.prog 87 #[.int .i64 a0, .slice A1 l1.length c1, .slice A2 l2.length c2, .func (.func 57) #[] #[]] w fun e w' => ∃ v0_ : Value, e = .returned (v0_) ∧ Kd.S k42 42 w' w.heap.size (fun _ => True) v0_ r ∧ Below w.heap.size w w' := by
 induction k using Nat.strongRecOn with
 | _ k ih =>
 intro a0 A1 c1 l1 A2 c2 l2 r w hr1 hc1 hr2 hc2 h
 cases k with
 | zero => exact absurd h (by simp [impl_combined_impl_either.f])
 | succ k =>
 simp only [impl_combined_impl_either.f] at h
 have hu42 := Try.underlying42
 have HR1 := yD hr1
 have HC1 := yD hc1
 clear hr1 hc1
 have HR2 := yD hr2
 have HC2 := yD hc2
 clear hr2 hc2
 have HB := yD (Below.refl w.heap.size w)
 have H : (if a0 = 0 then ((impl_either.f (decide ((l1.length : Int) > 0)) (decide ((l2.length : Int) > 0))).bind fun t589 => (if t589 = true then (some (([(⟨([] : List Int), ([] : List Int)⟩ : S42)] : List (S42)))) else (some ([] : List (S42))))) else (if (l1.length : Int) = 0 then (impl_combined_impl_either.j0 k a0 l1 l2 ((l2.length : Int) == 0)) else (impl_combined_impl_either.j0 k a0 l1 l2 false))) = some r := h
 clear h
 replace H := sQ H; rcases H with ⟨-, c5b0, c5b1, H⟩ | ⟨c5, c5b0, c5b1, H⟩
 ·
  replace ⟨t589, A6, H⟩ := sV H
  replace H := sS H; rcases H with ⟨rfl, H⟩ | ⟨rfl, H⟩
  ·
   obtain rfl := sJ H; go_enter Try.func87, Try.ntmps87
   go_wp2_with (first | (go_at_call 57; (refine (impl_either.calls (decide (0 < l1.length)) (decide (0 < l2.length)) false _ (by have h_ := A6.out; rw [show decide ((l1.length : Int) > 0) = decide (0 < l1.length) from decide_eq_decide.2 (by omega), show decide ((l2.length : Int) > 0) = decide (0 < l2.length) from decide_eq_decide.2 (by omega)] at h_; exact h_)).mono ?_); rintro e w' ⟨rfl, ⟨nd, rfl⟩⟩))
   go_ret
   exact ⟨_, kE, by first | exact Kd.S_nil _ _ _ _ _ | exact Kd.N_nil _ _ _ _ _ | exact Kd.V_nil _ _ _ _ _ | exact Kd.Q_nil _ _ _ _ _ | exact Kd.R_nil _ _ _ _ _, kR1 HB⟩
  obtain ⟨y590, hy590⟩ : ∃ y_ : List (S42), y_ = (([(⟨([] : List Int), ([] : List Int)⟩ : S42)] : List (S42))) := ⟨_, rfl⟩
  replace H : (some y590) = some r := by first | (rw [hy590]; with_reducible exact H) | (have H2_ := (Option.bind_some _ _).symm.trans H; rw [hy590]; with_reducible exact H2_) | (have H2_ := (Option.bind_some _ _).symm.trans H; with_reducible exact H2_) | with_reducible exact H | (rw [hy590]; exact H) | exact H
  have Ny590 := yD hy590
  clear hy590; obtain rfl := sJ H; go_enter Try.func87, Try.ntmps87
  go_wp2_with (first | (go_at_call 57; (refine (impl_either.calls (decide (0 < l1.length)) (decide (0 < l2.length)) true _ (by have h_ := A6.out; rw [show decide ((l1.length : Int) > 0) = decide (0 < l1.length) from decide_eq_decide.2 (by omega), show decide ((l2.length : Int) > 0) = decide (0 < l2.length) from decide_eq_decide.2 (by omega)] at h_; exact h_)).mono ?_); rintro e w' ⟨rfl, ⟨nd, rfl⟩⟩) | ((with_reducible refine gate_dst (N := 25) rfl ?_); (try (refine gate_guard (by rfl) ?_; dsimp only)); refine Kd.S_lit k42 _ 42 ?hg (N := 25) ?hd (xs := ([(⟨([] : List Int), ([] : List Int)⟩ : S42)] : List (S42))) (inner := [.slice none 0 0, .slice none 0 0]) (ok := fun _ => True) (okp := fun _ => True) ?hr ?hp (fun _ hk => hk) trivial (Below.refl _ _) (Nat.le_refl _) (by simp) ?_; (case hd => rfl); (case hg => rfl); (case hr => first | (go_simp; done) | (go_simp; rfl)); (case hp => exact (Reps.c2 (show Kd.M k42 _ _ _ (⟨([] : List Int), ([] : List Int)⟩ : S42) [.slice none 0 0, .slice none 0 0] from (k42_mkM _ _ _ (⟨([] : List Int), ([] : List Int)⟩ : S42) (Kd.R_nil _ _ _ _ _) (Kd.R_nil _ _ _ _ _))) (Reps.none _ _))); intro v591 w8 ho9 hb hg_ hnew_; clear hg_ hnew_; (first | rw [← Ny590.out] at ho9 | (simp only [Int.reduceToNat] at ho9; rw [← Ny590.out] at ho9)); have HO592 := yD (zG ho9 (below_size (kB HB))); replace HB := zX HB hb; clear hb ho9))
  go_ret
  exact ⟨_, kE, kS HO592, kR1 HB⟩
 have HC10 := yD H
 clear H; go_enter Try.func87, Try.ntmps87
 go_upto_region 5 with (fail)
 go_cut [33] (fun v33 wc => ∃ (kq : Nat) (x33_9 : Bool), v33 = .bool x33_9 ∧ Aside0 (impl_combined_impl_either.j0 kq a0 l1 l2 x33_9 = some r) ∧ Aside0 (kq ≤ k) ∧ Aside0 (Below w.heap.size w wc))
 case first =>
  have H := HC10.out; clear HC10
  replace H := sQ H; rcases H with ⟨-, c11b0, c11b1, H⟩ | ⟨c11, c11b0, c11b1, H⟩
  ·
   (first | rw [c11b0] | (simp only [i64_w, i32_w]; rw [c11b0]) | (simp only [bne] at c11b0; rw [c11b0]) | skip)
   have H' := yD H
   clear H
   go_wp2
   go_meet
   case rel => exact ⟨_, (((l2.length : Int) == 0)), kF, H', ⟨by first | omega | exact Nat.le_refl _⟩, ⟨kR1 HB⟩⟩
  have c11b2 : ¬ (l1 = []) := fun h_ => c11 (by rw [h_]; rfl)
  (first | rw [c11b0] | (simp only [i64_w, i32_w]; rw [c11b0]) | (simp only [bne] at c11b0; rw [c11b0]) | skip)
  have H' := yD H
  clear H
  go_wp2
  go_meet
  case rel => exact ⟨_, (false), kF, H', ⟨by first | omega | exact Nat.le_refl _⟩, ⟨kR1 HB⟩⟩
 case rest =>
  clear HC10
  obtain ⟨kq, x33_9, rfl, HA, HJ9, HB⟩ := hcut
  cases kq with
  | zero => exact absurd HA.out (by simp [impl_combined_impl_either.j0])
  | succ kj9 =>
   have H := HA.out; clear HA
   simp only [impl_combined_impl_either.j0] at H
   replace H := sT H; rcases H with ⟨rfl, H⟩ | ⟨rfl, H⟩
   · obtain rfl := sJ H
     go_wp2
     go_ret
     exact ⟨_, kE, by first | exact Kd.S_nil _ _ _ _ _ | exact Kd.N_nil _ _ _ _ _ | exact Kd.V_nil _ _ _ _ _ | exact Kd.Q_nil _ _ _ _ _ | exact Kd.R_nil _ _ _ _ _, kR1 HB⟩
   have H' := yD H
   clear H
   go_wp2
   go_loopg [9, 10, 11, 34] kj9 (fun kq v9 v10 v11 v34 w' => ∃ (x9_2 : List (S42)) (x10_2 : List (S42)) (x11_2 : Int) (x34_2 : Int), v11 = .int .i64 x11_2 ∧ v34 = .int .i64 x34_2 ∧ Aside0 (impl_combined_impl_either.l0 kq a0 l1 l2 x9_2 x10_2 x11_2 x34_2 = some r) ∧ Aside0 (kq ≤ kj9) ∧ Aside0 (Kd.S k42 42 w' w.heap.size (fun k_ => oB v10 k_) v9 x9_2) ∧ Aside0 (Kd.S k42 42 w' w.heap.size (fun k_ => oB v9 k_) v10 x10_2) ∧ Aside0 (Below w.heap.size w w'))
   case atStart => exact ⟨(([] : List (S42))), (([] : List (S42))), (0), (0), kF, kF, H', ⟨Nat.le_refl _⟩, ⟨by first | exact Kd.S_nil _ _ _ _ _ | exact Kd.N_nil _ _ _ _ _ | exact Kd.V_nil _ _ _ _ _ | exact Kd.Q_nil _ _ _ _ _ | exact Kd.R_nil _ _ _ _ _⟩, ⟨by first | exact Kd.S_nil _ _ _ _ _ | exact Kd.N_nil _ _ _ _ _ | exact Kd.V_nil _ _ _ _ _ | exact Kd.Q_nil _ _ _ _ _ | exact Kd.R_nil _ _ _ _ _⟩, ⟨kR1 HB⟩⟩
   case round =>
    clear H'
    obtain ⟨x9_2, x10_2, x11_2, x34_2, rfl, rfl, HA, HK2, HO_9, HO_10, HB⟩ := hrel
    cases gk with
    | zero => exact absurd HA.out (by simp [impl_combined_impl_either.l0])
    | succ k2 =>
     have H := HA.out; clear HA
     simp only [impl_combined_impl_either.l0] at H
     replace H := sG H; rcases H with ⟨c13b0, H⟩ | ⟨c13b0, H⟩
     · obtain rfl := sJ H
       go_wp2
       go_ret
       exact ⟨_, kE, mS HO_9 (fun _ hk => trivial), kR1 HB⟩
     have HC14 := yD H
     clear H
     go_upto_if 38 with (fail)
     go_cut [13] (fun v13 wc => ∃ (kq : Nat) (x13_13 : List (S42)), Aside0 (impl_combined_impl_either.j2 kq a0 l1 l2 x9_2 x10_2 x11_2 x34_2 x13_13 x34_2 = some r) ∧ Aside0 (kq ≤ k2) ∧ Aside0 (Kd.S k42 42 wc w.heap.size (fun k_ => oB u10 k_ ∧ oB v13 k_) u9 x9_2) ∧ Aside0 (Kd.S k42 42 wc w.heap.size (fun k_ => oB u9 k_ ∧ oB v13 k_) u10 x10_2) ∧ Aside0 (Kd.S k42 42 wc w.heap.size (fun k_ => oB u9 k_ ∧ oB u10 k_) v13 x13_13) ∧ Aside0 (Below w.heap.size w wc))
     case first =>
      have H := HC14.out; clear HC14
      replace H := sG H; rcases H with ⟨c15b0, H⟩ | ⟨c15b0, H⟩
      ·
       (first | rw [c15b0] | (simp only [i64_w, i32_w]; rw [c15b0]) | (simp only [bne] at c15b0; rw [c15b0]) | skip)
       have H' := yD H
       clear H
       go_wp2
       go_meet
       case rel => exact ⟨_, (([] : List (S42))), H', ⟨by have := HJ9.out; have := HK2.out; first | omega | exact Nat.le_refl _⟩, ⟨mS HO_9 (fun _ hk => ⟨hk, (by simp [oB, Value.ownBlock])⟩)⟩, ⟨mS HO_10 (fun _ hk => ⟨hk, (by simp [oB, Value.ownBlock])⟩)⟩, ⟨by first | exact Kd.S_nil _ _ _ _ _ | exact Kd.N_nil _ _ _ _ _ | exact Kd.V_nil _ _ _ _ _ | exact Kd.Q_nil _ _ _ _ _ | exact Kd.R_nil _ _ _ _ _⟩, ⟨kR1 HB⟩⟩
      (first | rw [c15b0] | (simp only [i64_w, i32_w]; rw [c15b0]) | (simp only [bne] at c15b0; rw [c15b0]) | skip)
      replace ⟨t593, A16, H⟩ := sV H
      replace ⟨t596, A17, H⟩ := sV H
      replace ⟨t599, A18, H⟩ := sV H
      have H' := yD H
      clear H
      go_wp2_with (first | ((with_reducible refine gate_callee (f := 123) rfl ?_); refine gL 43 Try.func123 _ ((impl_section.calls k2 (fun k_ => k_ < w.heap.size) _ _ l1 x34_2 t593 _ ?z1 A16.out).mono ?_); (case z1 => exact Kd.V_mk HC1.out (Kd.F_below (Kd.C_F k42_heap HR1.out) (kB HB))); rintro e w19 ⟨v594, rfl, ho0, hb⟩; refine ⟨_, rfl, ?_⟩; have HO595 := yD (Kd.V_lower (Kd.V_mono (ok' := fun k_ => oB u9 k_ ∧ oB u10 k_) ho0 (fun k_ hk_ => ⟨Or.elim hk_ (fun hs_ => fun e_ => Nat.not_le.2 hs_ (Kd.S_base HO_9.out k_ e_.symm)) (fun hn_ => (Kd.fresh' (Kd.S_lt (kS HO_9)) k_ hn_)), Or.elim hk_ (fun hs_ => fun e_ => Nat.not_le.2 hs_ (Kd.S_base HO_10.out k_ e_.symm)) (fun hn_ => (Kd.fresh' (Kd.S_lt (kS HO_10)) k_ hn_))⟩)) (below_size (kB HB))); replace HO_9 := yD (Kd.S_below (kS HO_9) hb); replace HO_10 := yD (Kd.S_below (kS HO_10) hb); replace HB := zX HB hb; clear hb ho0) | ((with_reducible refine gate_callee (f := 123) rfl ?_); refine gL 46 Try.func123 _ ((impl_section.calls k2 (fun k_ => k_ < w.heap.size) _ _ l2 x34_2 t596 _ ?z1 A17.out).mono ?_); (case z1 => exact Kd.V_mk HC2.out (Kd.F_below (Kd.C_F k42_heap HR2.out) (kB HB))); rintro e w20 ⟨v597, rfl, ho0, hb⟩; refine ⟨_, rfl, ?_⟩; replace HO595 := yD (Kd.V_below (kU HO595) hb); have HO598 := yD (Kd.V_lower (Kd.V_mono (ok' := fun k_ => oB u9 k_ ∧ oB u10 k_) ho0 (fun k_ hk_ => ⟨Or.elim hk_ (fun hs_ => fun e_ => Nat.not_le.2 hs_ (Kd.S_base HO_9.out k_ e_.symm)) (fun hn_ => (Kd.fresh' (Kd.S_lt (kS HO_9)) k_ hn_)), Or.elim hk_ (fun hs_ => fun e_ => Nat.not_le.2 hs_ (Kd.S_base HO_10.out k_ e_.symm)) (fun hn_ => (Kd.fresh' (Kd.S_lt (kS HO_10)) k_ hn_))⟩)) (below_size (kB HB))); replace HO_9 := yD (Kd.S_below (kS HO_9) hb); replace HO_10 := yD (Kd.S_below (kS HO_10) hb); replace HB := zX HB hb; clear hb ho0; obtain ⟨Ao21, co21, eo21⟩ := Kd.V_slice HO595.out; subst eo21; obtain ⟨Ao22, co22, eo22⟩ := Kd.V_slice HO598.out; subst eo22) | ((with_reducible refine gate_callee (f := 87) rfl ?_); refine gL 48 Try.func87 _ ((ih k2 (by have := HJ9.out; have := HK2.out; omega) (wrap64 (a0 - 1)) _ _ t593 _ _ t596  t599 _ ?z1 ?z2 ?z3 ?z4 A18.out).mono ?_); (case z1 => exact kV (Kd.V_reads' HO595.out).2.2); (case z2 => exact (Kd.V_reads' HO595.out).2.1); (case z3 => exact kV (Kd.V_reads' HO598.out).2.2); (case z4 => exact (Kd.V_reads' HO598.out).2.1); rintro e w23 ⟨v600, rfl, ho0, hb⟩; refine ⟨_, rfl, ?_⟩; replace HO595 := yD (Kd.V_elder' (kU HO595) (Kd.S_base ho0) hb); replace HO598 := yD (Kd.V_elder' (kU HO598) (Kd.S_base ho0) hb); have HO601 := yD (zG (zD (zD ho0 (Kd.S_lt (kS HO_9))) (Kd.S_lt (kS HO_10))) (below_size (kB HB))); replace HO_9 := yD (Kd.S_elder' (kS HO_9) (Kd.S_base ho0) hb); replace HO_10 := yD (Kd.S_elder' (kS HO_10) (Kd.S_base ho0) hb); replace HB := zX HB hb; clear hb ho0))
      go_meet
      case rel => exact ⟨_, (t599), H', ⟨by have := HJ9.out; have := HK2.out; first | omega | exact Nat.le_refl _⟩, ⟨kS HO_9⟩, ⟨kS HO_10⟩, ⟨mS HO601 (fun _ hk => ⟨hk.1.2, hk.2⟩)⟩, ⟨kR1 HB⟩⟩
     case rest =>
      clear HC14
      obtain ⟨kq, x13_13, HA, HJ13, HO_9, HO_10, HO_13, HB⟩ := hcut
      cases kq with
      | zero => exact absurd HA.out (by simp [impl_combined_impl_either.j2])
      | succ kj13 =>
       have H := HA.out; clear HA
       simp only [impl_combined_impl_either.j2] at H
       replace ⟨t602, A24, H⟩ := sV H
       replace H := sT H; rcases H with ⟨rfl, H⟩ | ⟨rfl, H⟩
       ·
        have H' := yD H
        clear H
        obtain ⟨Ao26, co26, eo26⟩ := Kd.S_slice HO_13.out
        subst eo26
        obtain ⟨Ao27, co27, eo27⟩ := Kd.S_slice HO_10.out
        subst eo27
        go_wp2_with (first | ((with_reducible refine gate_callee (f := 31) rfl ?_); refine gL 51 Try.func31 _ ((impl_SameBoxes.calls kj13 _ _ x13_13 _ _ x10_2 true _ ?z1 ?z3 A24.out).mono ?_); (case z1 => exact ⟨kV (Kd.S_reads' HO_13.out).2.2, (Kd.S_reads' HO_13.out).2.1⟩); (case z3 => exact ⟨kV (Kd.S_reads' HO_10.out).2.2, (Kd.S_reads' HO_10.out).2.1⟩); rintro e w28 ⟨rfl, hb⟩; refine ⟨_, rfl, ?_⟩; replace HO_9 := yD (Kd.S_below (kS HO_9) hb); replace HO_10 := yD (Kd.S_below (kS HO_10) hb); replace HO_13 := yD (Kd.S_below (kS HO_13) hb); replace HB := zX HB hb; clear hb))
        go_roundg kj13
        case measure => have := HJ9.out; have := HK2.out; have := HJ13.out; omega
        case rel => exact ⟨(x9_2), (x10_2), (x11_2), (wrap64 (x34_2 + 1)), kF, kF, H', ⟨by have := HJ9.out; have := HK2.out; have := HJ13.out; omega⟩, ⟨mS HO_9 (fun _ hk => hk.1)⟩, ⟨mS HO_10 (fun _ hk => hk.1)⟩, ⟨kR1 HB⟩⟩
       replace ⟨t603, A29, H⟩ := sV H
       replace ⟨LMc30, H⟩ := sM H
       generalize hy606 : ((x9_2 ++ t603) : List (S42)) = y606 at H
       have Ny606 := yD hy606.symm
       clear hy606
       have H' := yD H
       clear H
       obtain ⟨Ao31, co31, eo31⟩ := Kd.S_slice HO_13.out
       subst eo31
       obtain ⟨Ao32, co32, eo32⟩ := Kd.S_slice HO_10.out
       subst eo32
       go_wp2_with (first | ((with_reducible refine gate_callee (f := 31) rfl ?_); refine gL 51 Try.func31 _ ((impl_SameBoxes.calls kj13 _ _ x13_13 _ _ x10_2 false _ ?z1 ?z3 A24.out).mono ?_); (case z1 => exact ⟨kV (Kd.S_reads' HO_13.out).2.2, (Kd.S_reads' HO_13.out).2.1⟩); (case z3 => exact ⟨kV (Kd.S_reads' HO_10.out).2.2, (Kd.S_reads' HO_10.out).2.1⟩); rintro e w33 ⟨rfl, hb⟩; refine ⟨_, rfl, ?_⟩; replace HO_9 := yD (Kd.S_below (kS HO_9) hb); replace HO_10 := yD (Kd.S_below (kS HO_10) hb); replace HO_13 := yD (Kd.S_below (kS HO_13) hb); replace HB := zX HB hb; clear hb) | ((with_reducible refine gate_callee (f := 124) rfl ?_); refine gL 57 Try.func124 _ ((impl_prefixed.calls kj13 (fun k_ => (oB u9 k_ ∧ oB (.slice Ao31 x13_13.length co31) k_)) _ _ x10_2 x11_2 x34_2 t603 _ ?z1 A29.out).mono ?_); (case z1 => exact Kd.S_V (HO_10.out)); rintro e w34 ⟨v604, rfl, ho0, hb⟩; refine ⟨_, rfl, ?_⟩; have HPHO605_HO_9 := yD (S_pair (kS HO_9) hb (zD (zD (zD (Kd.S_mono (ok' := fun k_ => True) ho0 (fun _ hk_ => trivial)) (Kd.S_lt (kS HO_9))) (Kd.S_lt (kS HO_10))) (Kd.S_lt (kS HO_13))) (below_size (kB HB))); have HO605 := yD (zG (zD (zD (zD (Kd.S_mono (ok' := fun k_ => True) ho0 (fun _ hk_ => trivial)) (Kd.S_lt (kS HO_9))) (Kd.S_lt (kS HO_10))) (Kd.S_lt (kS HO_13))) (below_size (kB HB))); replace HO_9 := yD (Kd.S_elder' (kS HO_9) (Kd.S_base ho0) hb); replace HO_10 := yD (Kd.S_elder' (kS HO_10) (Kd.S_base ho0) hb); replace HO_13 := yD (Kd.S_elder' (kS HO_13) (Kd.S_base ho0) hb); replace HB := zX HB hb; clear hb ho0; obtain ⟨Ao36, co36, eo36⟩ := Kd.S_slice HO605.out; subst eo36) | ((with_reducible refine gate_builtin (b := .append) (xs := #[.tmp 53, .tmp 57]) rfl ?_); (try (refine gate_guard (by rfl) ?_; dsimp only)); at_builtin; obtain ⟨N_, hA_, hB_⟩ := HPHO605_HO_9.out; refine S_append_rows k42 (w0 := w) w.heap.size rfl (.tmp 53) (.tmp 57) 24 42 (.agg #[(.slice none 0 0), (.slice none 0 0)]) 48 rfl Try.underlying24 info42 rfl (by decide) (by omega) u9 x9_2 t603 _ _ _ (fun k_ => oB (.slice Ao32 x10_2.length co32) k_ ∧ oB (.slice Ao31 x13_13.length co31) k_) (fun k_ => N_ ≤ k_ ∧ (((fun k_ => oB (.slice Ao32 x10_2.length co32) k_ ∧ oB (.slice Ao31 x13_13.length co31) k_)) k_ ∧ oB u9 k_)) rfl rfl ?aO ?aR (fun _ hk => hk.2) ?aF ?aB ?aS ?aL ?_; (case aR => exact (by (with_reducible repeat (first | apply yS | apply yT | apply yU)); exact Kd.S_mono hB_ (fun k_ hk => ⟨hk.2, ⟨⟨hk.1.1.2, hk.1.2⟩, hk.1.1.1.2⟩⟩))); (case aB => exact (kB HB)); (case aF => exact (fun k_ hk => ⟨Kd.fresh' (Kd.S_lt (kS HO_10)) k_ hk, Kd.fresh' (Kd.S_lt (kS HO_13)) k_ hk⟩)); (case aO => exact (by (with_reducible repeat (first | apply yS | apply yT | apply yU)); exact Kd.S_mono hA_ (fun _ hk => ⟨⟨hk.1.1, hk.1.2⟩, fun e_ => absurd hk.2 (Nat.not_lt.2 e_.1)⟩))); (case aS => exact (below_size (kB HB))); (case aL => have := LMc30.out; omega); intro v607 w35 ho hb hg hat; rw [← Ny606.out] at ho; replace HO_10 := yD (Kd.S_after (ok := (fun k_ => oB (.slice Ao31 x13_13.length co31) k_ ∧ oB (.slice Ao36 t603.length co36) k_)) (mS HO_10 (fun _ hk => ⟨⟨hk.1.2, hk.2⟩, hk.1.1⟩)) hg hat); replace HO_13 := yD (Kd.S_after (ok := (fun k_ => oB (.slice Ao32 x10_2.length co32) k_ ∧ oB (.slice Ao36 t603.length co36) k_)) (mS HO_13 (fun _ hk => ⟨⟨hk.1.2, hk.2⟩, hk.1.1⟩)) hg hat); replace HB := yD (hb); have HO608 := yD (ho); clear HO_9 HO605; clear ho hb hg hat))
       go_roundg kj13
       case measure => have := HJ9.out; have := HK2.out; have := HJ13.out; omega
       case rel => exact ⟨(y606), (x13_13), (x34_2), (wrap64 (x34_2 + 1)), kF, kF, H', ⟨by have := HJ9.out; have := HK2.out; have := HJ13.out; omega⟩, ⟨mS HO608 (fun _ hk => hk.2)⟩, ⟨mS HO_13 (fun _ hk => hk.2)⟩, ⟨kR1 HB⟩⟩

/-! ### impl_normalFull: function 86 -/
def impl_normalFull.f (l0 : List (S42)) : Option (List (S42) × Int) := if (l0.length : Int) > 32 then (some ([], 5)) else (some (l0, 0))
set_option maxHeartbeats 8000000 in
theorem impl_normalFull.calls (P0_ : Nat → Prop) (u9000_ : Value) (l0 : List (S42)) (r1 : List (S42)) (r2 : Int) (w0 w : World) (hB : Below w0.heap.size w0 w) (ho0 : Kd.S k42 42 w w0.heap.size P0_ u9000_ l0) (h : impl_normalFull.f l0 = some (r1, r2)) :
 Calls Try.prog 86 #[u9000_] w fun e w' => ∃ v0_ : Value, e = .returned (.tuple #[v0_, .int .i64 r2]) ∧ Kd.S k42 42 w' w0.heap.size (fun k_ => (P0_ k_ ∨ w.heap.size ≤ k_)) v0_ r1 ∧ Below w0.heap.size w0 w' ∧ Kept w w' (fun k_ => P0_ k_) := by
 obtain ⟨A0, c0, rfl⟩ := Kd.S_slice ho0
 have HO_ := Aside0.mk ho0; have HB_ := Aside0.mk hB
 clear ho0 hB
 unfold impl_normalFull.f at h
 by_cases c2 : (l0.length : Int) > 32
 ·
  rw [if_pos c2] at h
  have c2b0 : decide (32 < (l0.length : Int)) = true := decide_eq_true c2
  have c2b1 : decide (32 < l0.length) = true := decide_eq_true (by omega)
  clear c2
  simp only [Option.some.injEq, Prod.mk.injEq] at h
  obtain ⟨rfl, rfl⟩ := h
  go_enter Try.func86, Try.ntmps86
  go_wp2
  go_ret2
  exact ⟨_, by first | rfl | simp, Kd.S_nil _ _ _ _ _, kR2 HB_, by (with_reducible repeat (first | apply Kept.alloc | apply Kept.drewN | apply Kept.drew)); exact Kept.refl _ _⟩
 ·
  rw [if_neg c2] at h
  have c2b0 : decide (32 < (l0.length : Int)) = false := decide_eq_false c2
  have c2b1 : decide (32 < l0.length) = false := decide_eq_false (by omega)
  clear c2
  simp only [Option.some.injEq, Prod.mk.injEq] at h
  obtain ⟨rfl, rfl⟩ := h
  go_enter Try.func86, Try.ntmps86
  go_wp2
  go_ret2
  exact ⟨_, by first | rfl | simp, by (with_reducible repeat (first | apply Kd.S_alloc | apply Kd.S_drewN | apply Kd.S_drew)); exact Kd.S_mono HO_.out (fun _ hk => .inl hk), kR2 HB_, by (with_reducible repeat (first | apply Kept.alloc | apply Kept.drewN | apply Kept.drew)); exact Kept.refl _ _⟩

/-! ### impl_BoxesOf: function 48 -/
mutual
def impl_BoxesOf.l0 : Nat → List Int → List (S42) → List Int → Int → Int → Option ((List (S42)) × Int)
 | 0, _, _, _, _, _ => none
 | k + 1, x0, x6, x18, x19, x20 => if x20 < x19 then (if 0 ≤ x20 then (if x20 < (x18.length : Int) then ((impl_coordsOf.f x0 (rd x18 x20)).bind fun t622 => ((slices_Clone_int64_int64.f t622).bind fun t625 => (impl_BoxesOf.l1 k x0 x6 t622 t625 x18 x19 x20 (t625.length : Int) 0))) else (none)) else (none)) else ((impl_combined_impl_either.f k (x0.length : Int) x6 ([] : List (S42))).bind fun t614 => ((impl_normalFull.f t614).bind fun bt617 => (some (bt617.1, bt617.2))))
def impl_BoxesOf.l1 : Nat → List Int → List (S42) → List Int → List Int → List Int → Int → Int → Int → Int → Option ((List (S42)) × Int)
 | 0, _, _, _, _, _, _, _, _, _ => none
 | k + 1, x0, x6, x9, x10, x18, x19, x20, x30, x31 => if x31 < x30 then (if 0 ≤ x31 then (if x31 < (x10.length : Int) then (impl_BoxesOf.l1 k x0 x6 x9 (x10.set (x31 : Int).toNat (wrap64 ((rd x10 x31) + 1))) x18 x19 x20 x30 (wrap64 (x31 + 1))) else (none)) else (none)) else (if x6.length < 2932031007402 then (impl_BoxesOf.l0 k x0 (x6 ++ [(⟨x9, x10⟩ : S42)]) x18 x19 (wrap64 (x20 + 1))) else (none))
end
def impl_BoxesOf.f (k : Nat) (l0 : List Int) (a1_0 : Int) (l1_1 : List Int) (l1_2 : List Int) (l1_3 : List Int) (l1_4 : List Int) (l1_5 : List (S110)) : Option ((List (S42)) × Int) := (impl_ValidSelection.f k l0 a1_0 l1_1 l1_2 l1_3 l1_4 l1_5).bind fun t610 => (if t610 = true then ((impl_Selection_indices.f k a1_0 l1_1 l1_2 l1_3 l1_4 l1_5 l0).bind fun t611 => (impl_BoxesOf.l0 k l0 ([] : List (S42)) t611 (t611.length : Int) 0)) else (some (([] : List (S42)), 1)))
theorem impl_BoxesOf.calls (k : Nat) (A0 : Option Addr) (c0 : Nat) (l0 : List Int) (a1_0 : Int) (A1_1 : Option Addr) (c1_1 : Nat) (l1_1 : List Int) (A1_2 : Option Addr) (c1_2 : Nat) (l1_2 : List Int) (A1_3 : Option Addr) (c1_3 : Nat) (l1_3 : List Int) (A1_4 : Option Addr) (c1_4 : Nat) (l1_4 : List Int) (A1_5 : Option Addr) (c1_5 : Nat) (l1_5 : List (S110)) (r1 : List (S42)) (r2 : Int) (w : World) (C0 : Cm (Kd.int .i64) w A0 c0 l0) (C1_1 : Cm (Kd.int .i64) w A1_1 c1_1 l1_1) (C1_2 : Cm (Kd.int .i64) w A1_2 c1_2 l1_2) (C1_3 : Cm (Kd.int .i64) w A1_3 c1_3 l1_3) (C1_4 : Cm (Kd.int .i64) w A1_4 c1_4 l1_4) (C1_5 : Cm k110 w A1_5 c1_5 l1_5) (h : impl_BoxesOf.f k l0 a1_0 l1_1 l1_2 l1_3 l1_4 l1_5 = some (r1, r2)) :
 Calls Try.prog 48 #[.slice A0 l0.length c0, .agg #[.int .i64 a1_0, .slice A1_1 l1_1.length c1_1, .slice A1_2 l1_2.length c1_2, .slice A1_3 l1_3.length c1_3, .slice A1_4 l1_4.length c1_4, .slice A1_5 l1_5.length c1_5]] w fun e w' => ∃ v0_ : Value, e = .returned (.tuple #[v0_, .int .i64 r2]) ∧ Kd.S k42 42 w' w.heap.size (fun _ => True) v0_ r1 ∧ Below w.heap.size w w' := by
 have hu55 := Try.underlying55; have hu42 := Try.underlying42
 have HB := yD (Below.refl w.heap.size w)
 have H : ((impl_ValidSelection.f k l0 a1_0 l1_1 l1_2 l1_3 l1_4 l1_5).bind fun t610 => (if t610 = true then ((impl_Selection_indices.f k a1_0 l1_1 l1_2 l1_3 l1_4 l1_5 l0).bind fun t611 => (impl_BoxesOf.l0 k l0 ([] : List (S42)) t611 (t611.length : Int) 0)) else (some (([] : List (S42)), 1)))) = some (r1, r2) := h
 clear h
 replace ⟨t610, A3, H⟩ := sV H
 replace H := sS H; rcases H with ⟨rfl, H⟩ | ⟨rfl, H⟩
 ·
  simp only [Option.some.injEq, Prod.mk.injEq] at H
  obtain ⟨rfl, rfl⟩ := H
  go_enter Try.func48, Try.ntmps48
  go_wp2_with (first | ((with_reducible refine gate_dst (N := 3) rfl ?_); refine bF (N := 3) (cs := #[.int .i64 a1_0, .slice A1_1 l1_1.length c1_1, .slice A1_2 l1_2.length c1_2, .slice A1_3 l1_3.length c1_3, .slice A1_4 l1_4.length c1_4, .slice A1_5 l1_5.length c1_5]) (t := 55) HB ?_; intro gb609 w35 BK609 GW609 HB; have := cf6_ BK609.out) | ((with_reducible refine gate_callee (f := 80) rfl ?_); refine gL 14 Try.func80 _ ((impl_ValidSelection.calls k _ _ l0 a1_0 _ _ l1_1 _ _ l1_2 _ _ l1_3 _ _ l1_4 _ _ l1_5 false _ (C0.b HB) (C1_1.b HB) (C1_2.b HB) (C1_3.b HB) (C1_4.b HB) (C1_5.b HB) A3.out).mono ?_); rintro e w37 ⟨rfl, hb⟩; refine ⟨_, rfl, ?_⟩; replace BK609 := zY BK609 hb; replace HB := zX HB hb; clear hb))
  go_ret2
  exact ⟨_, kE, by first | exact Kd.S_nil _ _ _ _ _ | exact Kd.N_nil _ _ _ _ _ | exact Kd.V_nil _ _ _ _ _ | exact Kd.Q_nil _ _ _ _ _ | exact Kd.R_nil _ _ _ _ _, kR0 HB⟩
 replace ⟨t611, A5, H⟩ := sV H
 have H' := yD H
 clear H; go_enter Try.func48, Try.ntmps48
 go_wp2_with (first | ((with_reducible refine gate_dst (N := 3) rfl ?_); refine bF (N := 3) (cs := #[.int .i64 a1_0, .slice A1_1 l1_1.length c1_1, .slice A1_2 l1_2.length c1_2, .slice A1_3 l1_3.length c1_3, .slice A1_4 l1_4.length c1_4, .slice A1_5 l1_5.length c1_5]) (t := 55) HB ?_; intro gb609 w6 BK609 GW609 HB; have := cf6_ BK609.out) | ((with_reducible refine gate_callee (f := 80) rfl ?_); refine gL 14 Try.func80 _ ((impl_ValidSelection.calls k _ _ l0 a1_0 _ _ l1_1 _ _ l1_2 _ _ l1_3 _ _ l1_4 _ _ l1_5 true _ (C0.b HB) (C1_1.b HB) (C1_2.b HB) (C1_3.b HB) (C1_4.b HB) (C1_5.b HB) A3.out).mono ?_); rintro e w8 ⟨rfl, hb⟩; refine ⟨_, rfl, ?_⟩; replace BK609 := zY BK609 hb; replace HB := zX HB hb; clear hb; have := cf6_ BK609.out) | ((with_reducible refine gate_callee (f := 81) rfl ?_); refine gL 18 Try.func81 _ ((impl_Selection_indices.calls k a1_0 _ _ l1_1 _ _ l1_2 _ _ l1_3 _ _ l1_4 _ _ l1_5 _ _ l0 t611 _ (C1_1.b HB) (C1_2.b HB) (C1_3.b HB) (C1_4.b HB) (C1_5.b HB) (C0.b HB) A5.out).mono ?_); rintro e w10 ⟨v612, rfl, ho0, hb⟩; refine ⟨_, rfl, ?_⟩; have HO613 := yD (yZ ho0 (below_size (kB HB))); replace BK609 := zY BK609 hb; replace HB := zX HB hb; clear hb ho0; obtain ⟨Ao11, co11, eo11⟩ := Kd.R_slice HO613.out; subst eo11))
 (try simp only [Act.put, zH, zI, zJ])
 go_loopg [6, 20] k (fun kq v6 v20 w' => ∃ (x6_1 : List (S42)) (x18_1 : List Int) (x20_1 : Int), v20 = .int .i64 x20_1 ∧ Aside0 (impl_BoxesOf.l0 kq l0 x6_1 x18_1 (t611.length : Int) x20_1 = some (r1, r2)) ∧ Aside0 (kq ≤ k) ∧ Aside0 (Kd.S k42 42 w' w.heap.size (fun k_ => oB (.slice Ao11 t611.length co11) k_) v6 x6_1) ∧ Aside0 (Kd.R (Kd.int .i64) 2 w' w.heap.size (fun _ => True) (.slice Ao11 t611.length co11) x18_1) ∧ Aside0 (w'.heap[gb609]? = some (.cells #[.int .i64 a1_0, (.slice A1_1 l1_1.length c1_1), (.slice A1_2 l1_2.length c1_2), (.slice A1_3 l1_3.length c1_3), (.slice A1_4 l1_4.length c1_4), (.slice A1_5 l1_5.length c1_5)] 55 (0, 0))) ∧ Aside0 (Below w.heap.size w w'))
 case atStart => exact ⟨(([] : List (S42))), (t611), (0), kF, H', ⟨Nat.le_refl _⟩, ⟨by first | exact Kd.S_nil _ _ _ _ _ | exact Kd.N_nil _ _ _ _ _ | exact Kd.V_nil _ _ _ _ _ | exact Kd.Q_nil _ _ _ _ _ | exact Kd.R_nil _ _ _ _ _⟩, ⟨kA HO613⟩, ⟨kM BK609⟩, ⟨kR0 HB⟩⟩
 case round =>
  clear H'
  obtain ⟨x6_1, x18_1, x20_1, rfl, HA, HK1, HO_6, HO_18, BK609, HB⟩ := hrel
  have hl18_1 := (zA HO_18.out).1
  rw [hl18_1] at HO_18
  (try simp only [hl18_1])
  (try simp only [hl18_1] at BK609)
  (try simp only [hl18_1] at HO_6)
  cases gk with
  | zero => exact absurd HA.out (by simp [impl_BoxesOf.l0])
  | succ k1 =>
   have H := HA.out; clear HA
   simp only [impl_BoxesOf.l0] at H
   replace H := sC H; rcases H with ⟨c12, H⟩ | ⟨c12, H⟩
   ·
    have c12b0 : decide (x20_1 < (t611.length : Int)) = false := zS c12
    (try (have c12b0h := c12b0; simp only [hl18_1] at c12b0h))
    clear c12
    replace ⟨t614, A29, H⟩ := sV H
    replace ⟨⟨t617, t620⟩, A30, H⟩ := sV H
    simp only [Option.some.injEq, Prod.mk.injEq] at H
    obtain ⟨rfl, rfl⟩ := H
    obtain ⟨Ao31, co31, eo31⟩ := Kd.S_slice HO_6.out
    subst eo31
    go_wp2_with (first | ((with_reducible refine gate_callee (f := 87) rfl ?_); refine gL 51 Try.func87 #[.int .i64 (l0.length : Int), .slice Ao31 x6_1.length co31, .slice none 0 0, .func (.func 57) #[] #[]] ?_; (refine (impl_combined_impl_either.calls k1 (l0.length : Int) _ _ x6_1 _ _ ([] : List (S42))  t614 _ ?z1 ?z2 ?z3 ?z4 A29.out).mono ?_); (case z1 => exact kV (Kd.S_reads' HO_6.out).2.2); (case z2 => exact (Kd.S_reads' HO_6.out).2.1); (case z3 => exact Kd.C_nil _ _); (case z4 => exact Nat.le_refl _); rintro e w32 ⟨v615, rfl, ho0, hb⟩; refine ⟨_, rfl, ?_⟩; have HO616 := yD (zG (zD ho0 (Kd.S_lt (kS HO_6))) (below_size (kB HB))); replace HO_6 := yD (Kd.S_elder' (kS HO_6) (Kd.S_base ho0) hb); replace BK609 := zY BK609 hb; replace HB := zX HB hb; clear hb ho0; obtain ⟨Ao33, co33, eo33⟩ := Kd.S_slice HO616.out; subst eo33) | ((with_reducible refine gate_callee (f := 86) rfl ?_); refine gL 52 Try.func86 _ ((impl_normalFull.calls ?P5_1 (.slice Ao33 t614.length co33) t614 t617 t620 w _ ?z1 ?z2 A30.out).mono ?_); (case z1 => exact kR0 HB); (case z2 => exact HO616.out); rintro e w34 ⟨v618, rfl, ho0, hb, hkp⟩; refine ⟨_, rfl, ?_⟩; clear BK609; have HO619 := yD (Kd.S_mono (ok' := fun k_ => True) ho0 (fun k_ hk_ => trivial)); replace HB := yD (hb); clear HO616; clear hb hkp ho0))
    go_ret2
    exact ⟨_, kE, kS HO619, kR0 HB⟩
   have c12b0 : decide (x20_1 < (t611.length : Int)) = true := zR c12
   (try (have c12b0h := c12b0; simp only [hl18_1] at c12b0h))
   clear c12
   replace ⟨c13, H⟩ := sD H
   have c13b0 : decide (0 ≤ x20_1) = true := zR c13
   (try (have c13b0h := c13b0; simp only [hl18_1] at c13b0h))
   clear c13
   replace ⟨c14, H⟩ := sD H
   have c14b0 : decide (x20_1 < (x18_1.length : Int)) = true := zR c14
   (try (have c14b0h := c14b0; simp only [hl18_1] at c14b0h))
   clear c14
   replace ⟨t622, A15, H⟩ := sV H
   replace ⟨t625, A16, H⟩ := sV H
   have H' := yD H
   clear H
   obtain ⟨p621, q621, ad621, e621, hx621_0⟩ := sI (Kd.at_int (zA HO_18.out).2.2 x20_1)
   cases e621
   go_wp2_with (first | ((with_reducible refine gate_callee (f := 85) rfl ?_); refine gL 26 Try.func85 _ ((impl_coordsOf.calls _ _ l0 (rd x18_1 x20_1) t622 _ (C0.b HB) A15.out).mono ?_); rintro e w17 ⟨v623, rfl, ho0, hb⟩; refine ⟨_, rfl, ?_⟩; replace HO_6 := yD (Kd.S_elder' (kS HO_6) (yH ho0) hb); have HO624 := yD (yZ (yJ ho0 (yK (kA HO_18))) (below_size (kB HB))); replace HO_18 := yD (Kd.R_elder' (kA HO_18) (yH ho0) hb); replace BK609 := zY BK609 hb; replace HB := zX HB hb; clear hb ho0; obtain ⟨Ao18, co18, eo18⟩ := Kd.R_slice HO624.out; subst eo18) | ((with_reducible refine gate_callee (f := 74) rfl ?_); refine gL 28 Try.func74 _ ((slices_Clone_int64_int64.calls _ _ t622 t625 _ ?z1 A16.out).mono ?_); (case z1 => exact ⟨kV (zA HO624.out).2.2, (zA HO624.out).2.1⟩); rintro e w19 ⟨v626, rfl, ho0, hb⟩; refine ⟨_, rfl, ?_⟩; replace HO_6 := yD (Kd.S_elder' (kS HO_6) (yH ho0) hb); have HO627 := yD (yZ (yJ (yJ ho0 (yK (kA HO_18))) (yK (kA HO624))) (below_size (kB HB))); replace HO_18 := yD (Kd.R_elder' (kA HO_18) (yH ho0) hb); replace HO624 := yD (Kd.R_elder' (kA HO624) (yH ho0) hb); replace BK609 := zY BK609 hb; replace HB := zX HB hb; clear hb ho0; obtain ⟨Ao20, co20, eo20⟩ := Kd.R_slice HO627.out; subst eo20))
   (try simp only [Act.put, zH, zI, zJ])
   go_loopg [31] k1 (fun kq v31 w' => ∃ (x10_2 : List Int) (x31_2 : Int), v31 = .int .i64 x31_2 ∧ Aside0 (impl_BoxesOf.l1 kq l0 x6_1 t622 x10_2 x18_1 (t611.length : Int) x20_1 (t625.length : Int) x31_2 = some (r1, r2)) ∧ Aside0 (kq ≤ k1) ∧ Aside0 (Kd.S k42 42 w' w.heap.size (fun k_ => oB (.slice Ao18 t622.length co18) k_ ∧ oB (.slice Ao20 t625.length co20) k_ ∧ some k_ ≠ ((.slice (some ad621) x18_1.length co11) : Value).ownBlock) u6 x6_1) ∧ Aside0 (Kd.R (Kd.int .i64) 2 w' w.heap.size (fun k_ => oB (.slice Ao20 t625.length co20) k_ ∧ some k_ ≠ ((.slice (some ad621) x18_1.length co11) : Value).ownBlock) (.slice Ao18 t622.length co18) t622) ∧ Aside0 (Kd.R (Kd.int .i64) 2 w' w.heap.size (fun k_ => oB (.slice Ao18 t622.length co18) k_ ∧ some k_ ≠ ((.slice (some ad621) x18_1.length co11) : Value).ownBlock) (.slice Ao20 t625.length co20) x10_2) ∧ Aside0 (Kd.R (Kd.int .i64) 2 w' w.heap.size (fun k_ => oB (.slice Ao18 t622.length co18) k_ ∧ oB (.slice Ao20 t625.length co20) k_) (.slice (some ad621) x18_1.length co11) x18_1) ∧ Aside0 (w'.heap[gb609]? = some (.cells #[.int .i64 a1_0, (.slice A1_1 l1_1.length c1_1), (.slice A1_2 l1_2.length c1_2), (.slice A1_3 l1_3.length c1_3), (.slice A1_4 l1_4.length c1_4), (.slice A1_5 l1_5.length c1_5)] 55 (0, 0))) ∧ Aside0 (Below w.heap.size w w'))
   case atStart => exact ⟨(t625), (0), kF, H', ⟨Nat.le_refl _⟩, ⟨by (try simp only [hl18_1]); (with_reducible repeat (first | apply yS | apply yT | apply yU)); exact Kd.S_mono HO_6.out (fun _ hk => ⟨hk.1.2, ⟨hk.2, hk.1.1⟩⟩)⟩, ⟨by (try simp only [hl18_1]); (with_reducible repeat (first | apply yA | apply yB | apply yC)); exact zF HO624.out (fun _ hk => ⟨hk.2, hk.1.2⟩)⟩, ⟨by (try simp only [hl18_1]); (with_reducible repeat (first | apply yA | apply yB | apply yC)); exact zF HO627.out (fun _ hk => ⟨hk.2, hk.1.2⟩)⟩, ⟨by (try simp only [hl18_1]); (with_reducible repeat (first | apply yA | apply yB | apply yC)); exact zF HO_18.out (fun _ hk => ⟨hk.1.2, hk.2⟩)⟩, ⟨by (try simp only [hl18_1]); (with_reducible repeat (first | refine yM ?_ _ | refine yO ?_ | refine yN ?_ _)); exact BK609.out⟩, ⟨kR0 HB⟩⟩
   case round =>
    clear H'
    obtain ⟨x10_2, x31_2, rfl, HA, HK2, HO_6, HO_9, HO_10, HO_18, BK609, HB⟩ := hrel
    have hl10_2 := (zA HO_10.out).1
    rw [hl10_2] at HO_10
    (try simp only [hl10_2])
    (try simp only [hl10_2] at BK609)
    (try simp only [hl10_2] at HO_6)
    (try simp only [hl10_2] at HO_9)
    (try simp only [hl10_2] at HO_18)
    cases gk with
    | zero => exact absurd HA.out (by simp [impl_BoxesOf.l1])
    | succ k2 =>
     have H := HA.out; clear HA
     simp only [impl_BoxesOf.l1] at H
     replace H := sC H; rcases H with ⟨c21, H⟩ | ⟨c21, H⟩
     ·
      have c21b0 : decide (x31_2 < (t625.length : Int)) = false := zS c21
      (try (have c21b0h := c21b0; simp only [hl18_1, hl10_2] at c21b0h))
      clear c21
      replace ⟨LMc27, H⟩ := sM H
      generalize hy630 : ((x6_1 ++ [(⟨t622, x10_2⟩ : S42)]) : List (S42)) = y630 at H
      have Ny630 := yD hy630.symm
      clear hy630
      have H' := yD H
      clear H
      go_wp2_with (first | ((with_reducible refine gate_builtin (b := .append) (xs := #[.tmp 41, .tmp 45]) rfl ?_); at_builtin; refine Kd.S_append k42 (w0 := w) w.heap.size rfl (.tmp 41) (.tmp 45) 24 42 (.agg #[(.slice none 0 0), (.slice none 0 0)]) 48 rfl Try.underlying24 info42 rfl (by decide) (by omega) u6 x6_1 (⟨t622, x10_2⟩ : S42) [.slice Ao18 t622.length co18, .slice Ao20 x10_2.length co20] (fun k_ => oB (.slice (some ad621) x18_1.length co11) k_) (fun k_ => some k_ = (.slice Ao18 t622.length co18 : Value).ownBlock ∨ some k_ = (.slice Ao20 x10_2.length co20 : Value).ownBlock) rfl rfl ?aP (fun k_ hk_ => hk_.elim (fun h_ => ((zF (ok' := fun k_ => ((fun k_ => oB (.slice (some ad621) x18_1.length co11) k_)) k_ ∧ oB u6 k_) (Kd.R_apart' (HO_9.out) (Kd.S_typed HO_6.out) (by decide)) (fun k_ hk => ⟨hk.1.2, hk.2⟩))).1 k_ h_.symm) (fun h_ => ((zF (ok' := fun k_ => ((fun k_ => oB (.slice (some ad621) x18_1.length co11) k_)) k_ ∧ oB u6 k_) (Kd.R_apart' (HO_10.out) (Kd.S_typed HO_6.out) (by decide)) (fun k_ hk => ⟨hk.1.2, hk.2⟩))).1 k_ h_.symm)) ?aF ?aO ?aB ?aS ?aL ?_; (case aP => exact k42_mkM _ _ _ (⟨t622, x10_2⟩ : S42) (zF (Kd.R_tight rfl (zF (ok' := fun k_ => ((fun k_ => oB (.slice (some ad621) x18_1.length co11) k_)) k_ ∧ oB u6 k_) (Kd.R_apart' (HO_9.out) (Kd.S_typed HO_6.out) (by decide)) (fun k_ hk => ⟨hk.1.2, hk.2⟩))) (fun _ h_ => Or.inl h_)) (zF (Kd.R_tight rfl (zF (ok' := fun k_ => ((fun k_ => oB (.slice (some ad621) x18_1.length co11) k_)) k_ ∧ oB u6 k_) (Kd.R_apart' (HO_10.out) (Kd.S_typed HO_6.out) (by decide)) (fun k_ hk => ⟨hk.1.2, hk.2⟩))) (fun _ h_ => Or.inr (h_)))); (case aB => exact (kB HB)); (case aF => exact (fun k_ hk => Kd.fresh' (yK (kA HO_18)) k_ hk)); (case aO => exact (mS HO_6 (fun k_ hk => ⟨hk.2.2, fun e_ => e_.elim (fun h_ => hk.1 h_) (fun h_ => hk.2.1 h_)⟩))); (case aS => exact (below_size (kB HB))); (case aL => have := LMc27.out; omega); intro v631 w28 ho hb hg hat; rw [← Ny630.out] at ho; replace HO_18 := yD (Kd.R_over' (kA HO_18) (Kd.S_typed (kS HO_6)) (by decide) hg); replace BK609 := yD (blk_grown (g := gb609) (o := .cells #[.int .i64 a1_0, .slice A1_1 l1_1.length c1_1, .slice A1_2 l1_2.length c1_2, .slice A1_3 l1_3.length c1_3, .slice A1_4 l1_4.length c1_4, .slice A1_5 l1_5.length c1_5] 55 (0, 0)) (kM BK609) hg (Kd.S_ne HO_6.out BK609.out (by decide))); replace HB := yD (hb); have HO632 := yD (ho); clear HO_6 HO_10 HO_9; clear ho hb hg hat))
      (try simp only [← hl18_1, ← hl10_2])
      go_roundg k2
      case measure => have := HK1.out; have := HK2.out; omega
      case rel => exact ⟨(y630), (x18_1), (wrap64 (x20_1 + 1)), kF, H', ⟨by have := HK1.out; have := HK2.out; omega⟩, ⟨by (try simp only [hl18_1]); (try simp only [hl10_2]); (with_reducible repeat (first | apply yS | apply yT | apply yU)); exact HO632.out⟩, ⟨by (try simp only [hl18_1]); (try simp only [hl10_2]); (with_reducible repeat (first | apply yA | apply yB | apply yC)); exact zF HO_18.out (fun _ hk => trivial)⟩, ⟨by (try simp only [hl18_1]); (try simp only [hl10_2]); (with_reducible repeat (first | refine yM ?_ _ | refine yO ?_ | refine yN ?_ _)); exact BK609.out⟩, ⟨kR0 HB⟩⟩
     have c21b0 : decide (x31_2 < (t625.length : Int)) = true := zR c21
     (try (have c21b0h := c21b0; simp only [hl18_1, hl10_2] at c21b0h))
     clear c21
     replace ⟨c22, H⟩ := sD H
     have c22b0 : decide (0 ≤ x31_2) = true := zR c22
     (try (have c22b0h := c22b0; simp only [hl18_1, hl10_2] at c22b0h))
     clear c22
     replace ⟨c23, H⟩ := sD H
     have c23b0 : decide (x31_2 < (x10_2.length : Int)) = true := zR c23
     (try (have c23b0h := c23b0; simp only [hl18_1, hl10_2] at c23b0h))
     clear c23
     generalize hy629 : ((x10_2.set (x31_2 : Int).toNat (wrap64 ((rd x10_2 x31_2) + 1))) : List Int) = y629 at H
     have Ny629 := yD hy629.symm
     clear hy629
     have H' := yD H
     clear H
     obtain ⟨p628, q628, ad628, e628, hx628_0⟩ := sI (Kd.at_int (zA HO_10.out).2.2 x31_2)
     cases e628
     have p24 : 0 ≤ (x31_2 : Int) := zP (by assumption)
     have q24 : (x31_2 : Int) < ((x10_2.length : Int) : Int) := zP (by assumption)
     obtain ⟨go24, co24, eo24, gb24, gl24, cl24, HG24⟩ := Kd.R_form HO_10.out (by omega)
     (first | cases eo24 | (injection eo24 with ea_ en_ ec_; (first | subst ea_ | (injection ea_ with ea_; subst ea_)); subst ec_; clear en_))
     have GB24 := yD gb24
     have GG24 := yD HG24
     clear gb24 gl24 HG24
     (first | simp only [add_plain] at hx628_0 | skip)
     obtain ⟨hx24_0, hf24_0⟩ := Kd.R_celln 0 HO_10.out (x31_2 : Int) p24 q24
     replace p24 := eq_true p24; replace q24 := eq_true q24
     have HP25 := Kd.R_putg HO_10.out (x31_2 : Int) (wrap64 ((rd x10_2 x31_2) + 1))
     go_wp2_with (first | ((with_reducible refine gate_store (t := 2) (p := 39) rfl ?_); refine store_event (t := 2) (p := 39) (v := ?vo_w26) (w1 := (wr.setCell ⟨go24, (x31_2 : Int).toNat, none⟩ (.int .i64 (wrap64 ((rd x10_2 x31_2) + 1))))) ?hg ?ho ?hn ?hr ?_; (case ho => rfl); (case hg => rfl); (case hn => rfl); (case hr => first | (go_simp; done) | (go_simp; rfl)); intro w26 hw; have hg : wr.grownBy w26 (some go24) := (by rw [hw]; exact HP25.2); have hp_ : Kd.R (Kd.int .i64) 2 w26 w.heap.size (fun k_ => oB (.slice Ao18 t622.length co18) k_ ∧ oB (.slice (some ad621) x18_1.length co11) k_) (.slice (some ⟨go24, 0, none⟩) x10_2.length co20) y629 := (by rw [hw, Ny629.out]; exact HP25.1); clear HP25; replace HO_6 := yD (Kd.S_after (v := (.slice (some ⟨go24, 0, none⟩) x10_2.length co20)) (v1 := (.slice (some ⟨go24, 0, none⟩) x10_2.length co20)) (ok := (fun k_ => oB (.slice Ao18 t622.length co18) k_ ∧ oB (.slice (some ad621) x18_1.length co11) k_)) (mS HO_6 (fun _ hk => ⟨⟨hk.1, hk.2.2⟩, hk.2.1⟩)) hg (.inl rfl)); replace HO_9 := yD (Kd.R_after (v := (.slice (some ⟨go24, 0, none⟩) x10_2.length co20)) (v1 := (.slice (some ⟨go24, 0, none⟩) x10_2.length co20)) (ok := (fun k_ => oB (.slice (some ad621) x18_1.length co11) k_)) (mR HO_9 (fun _ hk => ⟨hk.2, hk.1⟩)) hg (.inl rfl)); replace HO_18 := yD (Kd.R_after (v := (.slice (some ⟨go24, 0, none⟩) x10_2.length co20)) (v1 := (.slice (some ⟨go24, 0, none⟩) x10_2.length co20)) (ok := (fun k_ => oB (.slice Ao18 t622.length co18) k_)) (kA HO_18) hg (.inl rfl)); replace BK609 := yD (blk_grown (g := gb609) (o := .cells #[.int .i64 a1_0, .slice A1_1 l1_1.length c1_1, .slice A1_2 l1_2.length c1_2, .slice A1_3 l1_3.length c1_3, .slice A1_4 l1_4.length c1_4, .slice A1_5 l1_5.length c1_5] 55 (0, 0)) (kM BK609) hg (Kd.R_ne HO_10.out BK609.out (by decide))); replace HO_10 := yD (hp_); replace HB := yD ((by rw [hw]; exact yE (HB.out) GB24.out : Below w.heap.size w w26)); clear hg hw hp_))
     (try simp only [← hl10_2])
     go_roundg k2
     case measure => have := HK1.out; have := HK2.out; omega
     case rel => exact ⟨(y629), (wrap64 (x31_2 + 1)), kF, H', ⟨by have := HK1.out; have := HK2.out; omega⟩, ⟨by (try simp only [hl18_1]); (try simp only [hl10_2]); (with_reducible repeat (first | apply yS | apply yT | apply yU)); exact Kd.S_mono HO_6.out (fun _ hk => ⟨hk.1.1, ⟨hk.2, hk.1.2⟩⟩)⟩, ⟨by (try simp only [hl18_1]); (try simp only [hl10_2]); (with_reducible repeat (first | apply yA | apply yB | apply yC)); exact zF HO_9.out (fun _ hk => ⟨hk.2, hk.1⟩)⟩, ⟨by (try simp only [hl18_1]); (try simp only [hl10_2]); (with_reducible repeat (first | apply yA | apply yB | apply yC)); exact HO_10.out⟩, ⟨by (try simp only [hl18_1]); (try simp only [hl10_2]); (with_reducible repeat (first | apply yA | apply yB | apply yC)); exact HO_18.out⟩, ⟨by (try simp only [hl18_1]); (try simp only [hl10_2]); (with_reducible repeat (first | refine yM ?_ _ | refine yO ?_ | refine yN ?_ _)); exact BK609.out⟩, ⟨kR0 HB⟩⟩

/-! ### laws_eqInt64S: function 42 -/
def laws_eqInt64S.l0 : Nat → List Int → List Int → Int → Option (Bool)
 | 0, _, _, _ => none
 | k + 1, x0, x1, x5 => if x5 < (x0.length : Int) then (if 0 ≤ x5 then (if x5 < (x1.length : Int) then (if (rd x0 x5) = (rd x1 x5) then (laws_eqInt64S.l0 k x0 x1 (wrap64 (x5 + 1))) else (some false)) else (none)) else (none)) else (some true)
def laws_eqInt64S.f (k : Nat) (l0 : List Int) (l1 : List Int) : Option (Bool) := if (l0.length : Int) = (l1.length : Int) then (laws_eqInt64S.l0 k l0 l1 0) else (some false)
theorem laws_eqInt64S.calls (k : Nat) (A0 : Option Addr) (c0 : Nat) (l0 : List Int) (A1 : Option Addr) (c1 : Nat) (l1 : List Int) (r : Bool) (w : World) (C0 : Cm (Kd.int .i64) w A0 c0 l0) (C1 : Cm (Kd.int .i64) w A1 c1 l1) (h : laws_eqInt64S.f k l0 l1 = some r) :
 Calls Try.prog 42 #[.slice A0 l0.length c0, .slice A1 l1.length c1] w fun e w' => e = .returned (.bool r) ∧ Drawn0 w w' := by
 have H : (if (l0.length : Int) = (l1.length : Int) then (laws_eqInt64S.l0 k l0 l1 0) else (some false)) = some r := h
 clear h
 replace H := sP H; rcases H with ⟨c3, c3b0, c3b1, H⟩ | ⟨c3, c3b0, c3b1, H⟩
 ·
  have c3b2 : (l0.length == l1.length) = false := by first | simpa using c3 | (simp at c3 ⊢; omega)
  obtain rfl := sJ H; go_enter Try.func42, Try.ntmps42
  go_wp2
  repeat (go_quiet (fail); try go_wp2)
  go_ret
  exact ⟨by first | rfl | (simp; done) | (simp [*]; done), by repeat (first | exact Drawn0.refl _ | apply Drawn0.step)⟩
 have c3b2 : (l0.length == l1.length) = true := by first | simpa using c3 | (simp at c3 ⊢; omega)
 clear c3
 have H' := yD H
 clear H; go_enter Try.func42, Try.ntmps42
 go_wp2
 repeat (go_quiet (fail); try go_wp2)
 go_loopg [5] k (fun kq v5 w' => ∃ (x5_1 : Int), v5 = .int .i64 x5_1 ∧ Aside0 (laws_eqInt64S.l0 kq l0 l1 x5_1 = some r) ∧ Aside0 (kq ≤ k) ∧ Drawn0 w w')
 case atStart => exact ⟨(0), kF, H', ⟨Nat.le_refl _⟩, by repeat (first | exact Drawn0.refl _ | apply Drawn0.step)⟩
 case round =>
  clear H'
  obtain ⟨x5_1, rfl, HA, HK1, ⟨m1, rfl⟩⟩ := hrel
  cases gk with
  | zero => exact absurd HA.out (by simp [laws_eqInt64S.l0])
  | succ k1 =>
   have H := HA.out; clear HA
   simp only [laws_eqInt64S.l0] at H
   replace H := sG H; rcases H with ⟨c4b0, H⟩ | ⟨c4b0, H⟩
   ·
    obtain rfl := sJ H
    go_wp2
    repeat (go_quiet (fail); try go_wp2)
    go_ret
    exact ⟨by first | rfl | (simp; done) | (simp [*]; done), by repeat (first | exact Drawn0.refl _ | apply Drawn0.step)⟩
   replace ⟨c5b0, H⟩ := sE H
   replace ⟨c6b0, H⟩ := sE H
   replace H := sP H; rcases H with ⟨c7, c7b0, c7b1, H⟩ | ⟨-, c7b0, c7b1, H⟩
   ·
    obtain rfl := sJ H
    obtain ⟨p633, q633, ad633, e633, hx633_0⟩ := sI (Kd.at_int C0.r x5_1)
    cases e633
    obtain ⟨p634, q634, ad634, e634, hx634_0⟩ := sI (Kd.at_int C1.r x5_1)
    cases e634
    go_wp2
    repeat (go_quiet (fail); try go_wp2)
    go_ret
    exact ⟨by first | rfl | (simp; done) | (simp [*]; done), by repeat (first | exact Drawn0.refl _ | apply Drawn0.step)⟩
   have H' := yD H
   clear H
   obtain ⟨p633, q633, ad633, e633, hx633_0⟩ := sI (Kd.at_int C0.r x5_1)
   cases e633
   obtain ⟨p634, q634, ad634, e634, hx634_0⟩ := sI (Kd.at_int C1.r x5_1)
   cases e634
   go_wp2
   repeat (go_quiet (fail); try go_wp2)
   go_roundg k1
   case measure => have := HK1.out; omega
   case rel => exact ⟨(wrap64 (x5_1 + 1)), kF, H', ⟨by have := HK1.out; omega⟩, by repeat (first | exact Drawn0.refl _ | apply Drawn0.step)⟩

/-! ### laws_eqBox: function 34 -/
def laws_eqBox.f (k : Nat) (l0_0 : List Int) (l0_1 : List Int) (l1_0 : List Int) (l1_1 : List Int) : Option (Bool) := (laws_eqInt64S.f k l0_0 l1_0).bind fun t637 => (if t637 = true then ((laws_eqInt64S.f k l0_1 l1_1).bind fun t638 => (if t638 = true then (some true) else (some false))) else (some false))
theorem laws_eqBox.calls (k : Nat) (A0_0 : Option Addr) (c0_0 : Nat) (l0_0 : List Int) (A0_1 : Option Addr) (c0_1 : Nat) (l0_1 : List Int) (A1_0 : Option Addr) (c1_0 : Nat) (l1_0 : List Int) (A1_1 : Option Addr) (c1_1 : Nat) (l1_1 : List Int) (r : Bool) (w : World) (C0_0 : Cm (Kd.int .i64) w A0_0 c0_0 l0_0) (C0_1 : Cm (Kd.int .i64) w A0_1 c0_1 l0_1) (C1_0 : Cm (Kd.int .i64) w A1_0 c1_0 l1_0) (C1_1 : Cm (Kd.int .i64) w A1_1 c1_1 l1_1) (h : laws_eqBox.f k l0_0 l0_1 l1_0 l1_1 = some r) :
 Calls Try.prog 34 #[.agg #[.slice A0_0 l0_0.length c0_0, .slice A0_1 l0_1.length c0_1], .agg #[.slice A1_0 l1_0.length c1_0, .slice A1_1 l1_1.length c1_1]] w fun e w' => e = .returned (.bool r) ∧ Below w.heap.size w w' := by
 have hu42 := Try.underlying42
 have HB := yD (Below.refl w.heap.size w)
 have H : ((laws_eqInt64S.f k l0_0 l1_0).bind fun t637 => (if t637 = true then ((laws_eqInt64S.f k l0_1 l1_1).bind fun t638 => (if t638 = true then (some true) else (some false))) else (some false))) = some r := h
 clear h
 replace ⟨t637, A3, H⟩ := sV H
 replace H := sS H; rcases H with ⟨rfl, H⟩ | ⟨rfl, H⟩
 ·
  obtain rfl := sJ H; go_enter Try.func34, Try.ntmps34
  go_wp2_with (first | ((with_reducible refine gate_dst (N := 2) rfl ?_); refine bF (N := 2) (cs := #[.slice A0_0 l0_0.length c0_0, .slice A0_1 l0_1.length c0_1]) (t := 42) HB ?_; intro gb635 w17 BK635 GW635 HB) | ((with_reducible refine gate_dst (N := 3) rfl ?_); refine bE (N := 3) (cs := #[.slice A1_0 l1_0.length c1_0, .slice A1_1 l1_1.length c1_1]) (t := 42) ?_; intro gb636 hg w18 hbox hb; have BK636 := yD (hbox); have GW636 := sW hg HB; replace HB := zX HB hb; have NB635_636 := yD ((by rw [hg]; exact Nat.ne_of_lt (blk_lt (kN BK635)) : gb635 ≠ gb636)); have NB636_635 := yD ((by rw [hg]; exact Nat.ne_of_gt (blk_lt (kN BK635)) : gb636 ≠ gb635)); replace BK635 := zY BK635 hb; clear hb hbox hg; have hnb19 := NB635_636.out; have hnc19 := NB636_635.out; have := cf2_ BK635.out; have := cf2_ BK636.out) | ((with_reducible refine gate_callee (f := 42) rfl ?_); refine gL 9 Try.func42 _ (dm (laws_eqInt64S.calls k _ _ l0_0 _ _ l1_0 false _ (C0_0.b HB) (C1_0.b HB) A3.out) fun nd => ?_)))
  go_ret
  exact ⟨kE, kR0 HB⟩
 replace ⟨t638, A5, H⟩ := sV H
 replace H := sS H; rcases H with ⟨rfl, H⟩ | ⟨rfl, H⟩
 ·
  obtain rfl := sJ H; go_enter Try.func34, Try.ntmps34
  go_wp2_with (first | ((with_reducible refine gate_dst (N := 2) rfl ?_); refine bF (N := 2) (cs := #[.slice A0_0 l0_0.length c0_0, .slice A0_1 l0_1.length c0_1]) (t := 42) HB ?_; intro gb635 w12 BK635 GW635 HB) | ((with_reducible refine gate_dst (N := 3) rfl ?_); refine bE (N := 3) (cs := #[.slice A1_0 l1_0.length c1_0, .slice A1_1 l1_1.length c1_1]) (t := 42) ?_; intro gb636 hg w13 hbox hb; have BK636 := yD (hbox); have GW636 := sW hg HB; replace HB := zX HB hb; have NB635_636 := yD ((by rw [hg]; exact Nat.ne_of_lt (blk_lt (kN BK635)) : gb635 ≠ gb636)); have NB636_635 := yD ((by rw [hg]; exact Nat.ne_of_gt (blk_lt (kN BK635)) : gb636 ≠ gb635)); replace BK635 := zY BK635 hb; clear hb hbox hg; have hnb14 := NB635_636.out; have hnc14 := NB636_635.out; have := cf2_ BK635.out; have := cf2_ BK636.out) | ((with_reducible refine gate_callee (f := 42) rfl ?_); refine gL 9 Try.func42 _ (dm (laws_eqInt64S.calls k _ _ l0_0 _ _ l1_0 true _ (C0_0.b HB) (C1_0.b HB) A3.out) fun nd => ?_)) | ((with_reducible refine gate_callee (f := 42) rfl ?_); refine gL 15 Try.func42 _ (dm (laws_eqInt64S.calls k _ _ l0_1 _ _ l1_1 false _ (C0_1.b HB) (C1_1.b HB) A5.out) fun nd => ?_)))
  go_ret
  exact ⟨kE, kR0 HB⟩
 obtain rfl := sJ H; go_enter Try.func34, Try.ntmps34
 go_wp2_with (first | ((with_reducible refine gate_dst (N := 2) rfl ?_); refine bF (N := 2) (cs := #[.slice A0_0 l0_0.length c0_0, .slice A0_1 l0_1.length c0_1]) (t := 42) HB ?_; intro gb635 w7 BK635 GW635 HB) | ((with_reducible refine gate_dst (N := 3) rfl ?_); refine bE (N := 3) (cs := #[.slice A1_0 l1_0.length c1_0, .slice A1_1 l1_1.length c1_1]) (t := 42) ?_; intro gb636 hg w8 hbox hb; have BK636 := yD (hbox); have GW636 := sW hg HB; replace HB := zX HB hb; have NB635_636 := yD ((by rw [hg]; exact Nat.ne_of_lt (blk_lt (kN BK635)) : gb635 ≠ gb636)); have NB636_635 := yD ((by rw [hg]; exact Nat.ne_of_gt (blk_lt (kN BK635)) : gb636 ≠ gb635)); replace BK635 := zY BK635 hb; clear hb hbox hg; have hnb9 := NB635_636.out; have hnc9 := NB636_635.out; have := cf2_ BK635.out; have := cf2_ BK636.out) | ((with_reducible refine gate_callee (f := 42) rfl ?_); refine gL 9 Try.func42 _ (dm (laws_eqInt64S.calls k _ _ l0_0 _ _ l1_0 true _ (C0_0.b HB) (C1_0.b HB) A3.out) fun nd => ?_)) | ((with_reducible refine gate_callee (f := 42) rfl ?_); refine gL 15 Try.func42 _ (dm (laws_eqInt64S.calls k _ _ l0_1 _ _ l1_1 true _ (C0_1.b HB) (C1_1.b HB) A5.out) fun nd => ?_)))
 go_ret
 exact ⟨kE, kR0 HB⟩
/-! ### laws_eqBoxS: function 17 -/
def laws_eqBoxS.l0 : Nat → List (S42) → List (S42) → Int → Option (Bool)
 | 0, _, _, _ => none
 | k + 1, x0, x1, x5 => if x5 < (x0.length : Int) then (if 0 ≤ x5 then (if x5 < (x1.length : Int) then ((laws_eqBox.f k ((rd_T42 x0 x5).f0) ((rd_T42 x0 x5).f1) ((rd_T42 x1 x5).f0) ((rd_T42 x1 x5).f1)).bind fun t641 => (if t641 = true then (laws_eqBoxS.l0 k x0 x1 (wrap64 (x5 + 1))) else (some false))) else (none)) else (none)) else (some true)
def laws_eqBoxS.f (k : Nat) (l0 : List (S42)) (l1 : List (S42)) : Option (Bool) := if (l0.length : Int) = (l1.length : Int) then (laws_eqBoxS.l0 k l0 l1 0) else (some false)
def laws_eqBoxS.T6 : Bool × List (List Nat × List Nat) := (true, [([], []), ([], []), ([0, 1], [0, 1]), ([2], [2]), ([], []), ([], []), ([4, 5], [4, 5]), ([6], [6]), ([3, 7], [3, 7]), ([8], [8])])
def laws_eqBoxS.B6 : List Nat := [0, 0, 3, 7, 0, 0, 48, 112, 255, 511]
theorem laws_eqBoxS.tab6 : rtab .any (opsOf Try.f17 6) = laws_eqBoxS.T6 := by kernel_rfl
theorem laws_eqBoxS.bits6 : waitsOk laws_eqBoxS.T6.2 laws_eqBoxS.B6 = true := by kernel_rfl
theorem laws_eqBoxS.calls (k : Nat) (A0 : Option Addr) (c0 : Nat) (l0 : List (S42)) (A1 : Option Addr) (c1 : Nat) (l1 : List (S42)) (r : Bool) (w : World) (C0 : Cm k42 w A0 c0 l0) (C1 : Cm k42 w A1 c1 l1) (h : laws_eqBoxS.f k l0 l1 = some r) :
 Calls Try.prog 17 #[.slice A0 l0.length c0, .slice A1 l1.length c1] w fun e w' => e = .returned (.bool r) ∧ Below w.heap.size w w' := by
 have hu42 := Try.underlying42
 have HB := yD (Below.refl w.heap.size w)
 have H : (if (l0.length : Int) = (l1.length : Int) then (laws_eqBoxS.l0 k l0 l1 0) else (some false)) = some r := h
 clear h
 replace H := sP H; rcases H with ⟨c3, c3b0, c3b1, H⟩ | ⟨c3, c3b0, c3b1, H⟩
 ·
  have c3b2 : (l0.length == l1.length) = false := by first | simpa using c3 | (simp at c3 ⊢; omega)
  obtain rfl := sJ H; go_enter Try.func17, Try.ntmps17
  go_wp2
  go_ret
  exact ⟨kE, kR1 HB⟩
 have c3b2 : (l0.length == l1.length) = true := by first | simpa using c3 | (simp at c3 ⊢; omega)
 clear c3
 have H' := yD H
 clear H; go_enter Try.func17, Try.ntmps17
 go_wp2
 go_loopg [5] k (fun kq v5 w' => ∃ (x5_1 : Int), v5 = .int .i64 x5_1 ∧ Aside0 (laws_eqBoxS.l0 kq l0 l1 x5_1 = some r) ∧ Aside0 (kq ≤ k) ∧ Aside0 (Below w.heap.size w w'))
 case atStart => exact ⟨(0), kF, H', ⟨Nat.le_refl _⟩, ⟨kR1 HB⟩⟩
 case round =>
  clear H'
  obtain ⟨x5_1, rfl, HA, HK1, HB⟩ := hrel
  cases gk with
  | zero => exact absurd HA.out (by simp [laws_eqBoxS.l0])
  | succ k1 =>
   have H := HA.out; clear HA
   simp only [laws_eqBoxS.l0] at H
   replace H := sG H; rcases H with ⟨c4b0, H⟩ | ⟨c4b0, H⟩
   · obtain rfl := sJ H
     go_wp2
     go_ret
     exact ⟨kE, kR1 HB⟩
   replace ⟨c5b0, H⟩ := sE H
   replace ⟨c6b0, H⟩ := sE H
   replace ⟨t641, A7, H⟩ := sV H
   replace H := sS H; rcases H with ⟨rfl, H⟩ | ⟨rfl, H⟩
   ·
    obtain rfl := sJ H
    try go_wp2
    replace HB := yD (yP HB.out)
    obtain ⟨p639, q639, ad639, A639_0, c639_0, A639_1, c639_1, e639, hx639_0, hx639_1, HC639_0, HR639_0, HC639_1, HR639_1⟩ := sI (at_T42 C0.r x5_1)
    have hw639_1 := hx639_1; have hw639_0 := hx639_0; cases e639
    replace hx639_0 := kD HB hx639_0
    replace hx639_1 := kD HB hx639_1
    obtain ⟨p640, q640, ad640, A640_0, c640_0, A640_1, c640_1, e640, hx640_0, hx640_1, HC640_0, HR640_0, HC640_1, HR640_1⟩ := sI (at_T42 C1.r x5_1)
    have hw640_1 := hx640_1; have hw640_0 := hx640_0; cases e640
    replace hx640_0 := kD HB hx640_0
    replace hx640_1 := kD HB hx640_1
    refine s0 (m := 10) (S := fun w' => w'.cell? (ad639.add ((x5_1).toNat * 2)) = some (.slice A639_0 ((rd_T42 l0 x5_1).f0).length c639_0) ∧ w'.cell? ⟨(ad639.add ((x5_1).toNat * 2)).block, (ad639.add ((x5_1).toNat * 2)).off + 1, none⟩ = some (.slice A639_1 ((rd_T42 l0 x5_1).f1).length c639_1) ∧ w'.cell? (ad640.add ((x5_1).toNat * 2)) = some (.slice A640_0 ((rd_T42 l1 x5_1).f0).length c640_0) ∧ w'.cell? ⟨(ad640.add ((x5_1).toNat * 2)).block, (ad640.add ((x5_1).toNat * 2)).off + 1, none⟩ = some (.slice A640_1 ((rd_T42 l1 x5_1).f1).length c640_1)) laws_eqBoxS.tab6 laws_eqBoxS.bits6 ⟨(kC HB hw639_0), (kC HB hw639_1), (kC HB hw640_0), (kC HB hw640_1)⟩ fun hHeld HT_ HW_ => ?_
    generalize wr.drew = w11 at HB HR639_0 HR639_1 HR640_0 HR640_1 hx639_0 hx639_1 hx640_0 hx640_1 hHeld ⊢
    refine qa 10 0 1 ?_; refine qa 10 1 3 ?_; refine qa 10 2 7 ?_; refine qa 10 4 23 ?_; refine qa 10 5 55 ?_; refine qa 10 6 119 ?_; refine qc 10 3 127 hHeld ?_; refine qc 10 7 255 hHeld ?_
    refine qo 10 8 511 (some 25) fun K hK => ?_
    refine qg Try.func34 _ ((laws_eqBox.calls k1 _ _ ((rd_T42 l0 x5_1).f0) _ _ ((rd_T42 l0 x5_1).f1) _ _ ((rd_T42 l1 x5_1).f0) _ _ ((rd_T42 l1 x5_1).f1) false _ (cB HR639_0 HC639_0 HB) (cB HR639_1 HC639_1 HB) (cB HR640_0 HC640_0 HB) (cB HR640_1 HC640_1 HB) A7.out).mono ?_)
    rintro e w12 ⟨rfl, hb⟩
    refine ⟨_, rfl, ?_⟩
    replace HB := zX HB hb
    refine hK.out _ _ ⟨(kC HB hw639_0), (kC HB hw639_1), (kC HB hw640_0), (kC HB hw640_1)⟩ (fun hHeld => ?_)
    clear hK K
    refine nZ 25 ?_
    refine qa 10 9 1023 ?_
    refine qd ?_
    try go_wp2
    go_ret
    exact ⟨kE, kR1 HB⟩
   have H' := yD H
   clear H
   try go_wp2
   replace HB := yD (yP HB.out)
   obtain ⟨p639, q639, ad639, A639_0, c639_0, A639_1, c639_1, e639, hx639_0, hx639_1, HC639_0, HR639_0, HC639_1, HR639_1⟩ := sI (at_T42 C0.r x5_1)
   have hw639_1 := hx639_1; have hw639_0 := hx639_0; cases e639
   replace hx639_0 := kD HB hx639_0
   replace hx639_1 := kD HB hx639_1
   obtain ⟨p640, q640, ad640, A640_0, c640_0, A640_1, c640_1, e640, hx640_0, hx640_1, HC640_0, HR640_0, HC640_1, HR640_1⟩ := sI (at_T42 C1.r x5_1)
   have hw640_1 := hx640_1; have hw640_0 := hx640_0; cases e640
   replace hx640_0 := kD HB hx640_0
   replace hx640_1 := kD HB hx640_1
   refine s0 (m := 10) (S := fun w' => w'.cell? (ad639.add ((x5_1).toNat * 2)) = some (.slice A639_0 ((rd_T42 l0 x5_1).f0).length c639_0) ∧ w'.cell? ⟨(ad639.add ((x5_1).toNat * 2)).block, (ad639.add ((x5_1).toNat * 2)).off + 1, none⟩ = some (.slice A639_1 ((rd_T42 l0 x5_1).f1).length c639_1) ∧ w'.cell? (ad640.add ((x5_1).toNat * 2)) = some (.slice A640_0 ((rd_T42 l1 x5_1).f0).length c640_0) ∧ w'.cell? ⟨(ad640.add ((x5_1).toNat * 2)).block, (ad640.add ((x5_1).toNat * 2)).off + 1, none⟩ = some (.slice A640_1 ((rd_T42 l1 x5_1).f1).length c640_1)) laws_eqBoxS.tab6 laws_eqBoxS.bits6 ⟨(kC HB hw639_0), (kC HB hw639_1), (kC HB hw640_0), (kC HB hw640_1)⟩ fun hHeld HT_ HW_ => ?_
   generalize wr.drew = w9 at HB HR639_0 HR639_1 HR640_0 HR640_1 hx639_0 hx639_1 hx640_0 hx640_1 hHeld ⊢
   refine qa 10 0 1 ?_; refine qa 10 1 3 ?_; refine qa 10 2 7 ?_; refine qa 10 4 23 ?_; refine qa 10 5 55 ?_; refine qa 10 6 119 ?_; refine qc 10 3 127 hHeld ?_; refine qc 10 7 255 hHeld ?_
   refine qo 10 8 511 (some 25) fun K hK => ?_
   refine qg Try.func34 _ ((laws_eqBox.calls k1 _ _ ((rd_T42 l0 x5_1).f0) _ _ ((rd_T42 l0 x5_1).f1) _ _ ((rd_T42 l1 x5_1).f0) _ _ ((rd_T42 l1 x5_1).f1) true _ (cB HR639_0 HC639_0 HB) (cB HR639_1 HC639_1 HB) (cB HR640_0 HC640_0 HB) (cB HR640_1 HC640_1 HB) A7.out).mono ?_)
   rintro e w10 ⟨rfl, hb⟩
   refine ⟨_, rfl, ?_⟩
   replace HB := zX HB hb
   refine hK.out _ _ ⟨(kC HB hw639_0), (kC HB hw639_1), (kC HB hw640_0), (kC HB hw640_1)⟩ (fun hHeld => ?_)
   clear hK K
   refine nZ 25 ?_
   refine qa 10 9 1023 ?_
   refine qd ?_
   try go_wp2
   go_roundg k1
   case measure => have := HK1.out; omega
   case rel => exact ⟨(wrap64 (x5_1 + 1)), kF, H', ⟨by have := HK1.out; omega⟩, ⟨kR1 HB⟩⟩

/-! ### laws_eqPoint: function 120 -/
def laws_eqPoint.f (k : Nat) (l0_0 : List Int) (l1_0 : List Int) : Option (Bool) := (laws_eqInt64S.f k l0_0 l1_0).bind fun t644 => (if t644 = true then (some true) else (some false))
theorem laws_eqPoint.calls (k : Nat) (A0_0 : Option Addr) (c0_0 : Nat) (l0_0 : List Int) (A1_0 : Option Addr) (c1_0 : Nat) (l1_0 : List Int) (r : Bool) (w : World) (C0_0 : Cm (Kd.int .i64) w A0_0 c0_0 l0_0) (C1_0 : Cm (Kd.int .i64) w A1_0 c1_0 l1_0) (h : laws_eqPoint.f k l0_0 l1_0 = some r) :
 Calls Try.prog 120 #[.agg #[.slice A0_0 l0_0.length c0_0], .agg #[.slice A1_0 l1_0.length c1_0]] w fun e w' => e = .returned (.bool r) ∧ Below w.heap.size w w' := by
 have hu110 := Try.underlying110
 have HB := yD (Below.refl w.heap.size w)
 have H : ((laws_eqInt64S.f k l0_0 l1_0).bind fun t644 => (if t644 = true then (some true) else (some false))) = some r := h
 clear h
 replace ⟨t644, A3, H⟩ := sV H
 replace H := sS H; rcases H with ⟨rfl, H⟩ | ⟨rfl, H⟩
 ·
  obtain rfl := sJ H; go_enter Try.func120, Try.ntmps120
  go_wp2_with (first | ((with_reducible refine gate_dst (N := 2) rfl ?_); refine bF (N := 2) (cs := #[.slice A0_0 l0_0.length c0_0]) (t := 110) HB ?_; intro gb642 w10 BK642 GW642 HB) | ((with_reducible refine gate_dst (N := 3) rfl ?_); refine bE (N := 3) (cs := #[.slice A1_0 l1_0.length c1_0]) (t := 110) ?_; intro gb643 hg w11 hbox hb; have BK643 := yD (hbox); have GW643 := sW hg HB; replace HB := zX HB hb; have NB642_643 := yD ((by rw [hg]; exact Nat.ne_of_lt (blk_lt (kN BK642)) : gb642 ≠ gb643)); have NB643_642 := yD ((by rw [hg]; exact Nat.ne_of_gt (blk_lt (kN BK642)) : gb643 ≠ gb642)); replace BK642 := zY BK642 hb; clear hb hbox hg; have hnb12 := NB642_643.out; have hnc12 := NB643_642.out; have hcz13_0 : w11.cell? ⟨gb642, 0, none⟩ = some (.slice A0_0 l0_0.length c0_0) := (yG BK642.out 0).trans rfl; have hfz13_0 := yR BK642.out 0; have hcz14_0 : w11.cell? ⟨gb643, 0, none⟩ = some (.slice A1_0 l1_0.length c1_0) := (yG BK643.out 0).trans rfl; have hfz14_0 := yR BK643.out 0) | ((with_reducible refine gate_callee (f := 42) rfl ?_); refine gL 9 Try.func42 _ (dm (laws_eqInt64S.calls k _ _ l0_0 _ _ l1_0 false _ (C0_0.b HB) (C1_0.b HB) A3.out) fun nd => ?_)))
  go_ret
  exact ⟨kE, kR0 HB⟩
 obtain rfl := sJ H; go_enter Try.func120, Try.ntmps120
 go_wp2_with (first | ((with_reducible refine gate_dst (N := 2) rfl ?_); refine bF (N := 2) (cs := #[.slice A0_0 l0_0.length c0_0]) (t := 110) HB ?_; intro gb642 w5 BK642 GW642 HB) | ((with_reducible refine gate_dst (N := 3) rfl ?_); refine bE (N := 3) (cs := #[.slice A1_0 l1_0.length c1_0]) (t := 110) ?_; intro gb643 hg w6 hbox hb; have BK643 := yD (hbox); have GW643 := sW hg HB; replace HB := zX HB hb; have NB642_643 := yD ((by rw [hg]; exact Nat.ne_of_lt (blk_lt (kN BK642)) : gb642 ≠ gb643)); have NB643_642 := yD ((by rw [hg]; exact Nat.ne_of_gt (blk_lt (kN BK642)) : gb643 ≠ gb642)); replace BK642 := zY BK642 hb; clear hb hbox hg; have hnb7 := NB642_643.out; have hnc7 := NB643_642.out; have hcz8_0 : w6.cell? ⟨gb642, 0, none⟩ = some (.slice A0_0 l0_0.length c0_0) := (yG BK642.out 0).trans rfl; have hfz8_0 := yR BK642.out 0; have hcz9_0 : w6.cell? ⟨gb643, 0, none⟩ = some (.slice A1_0 l1_0.length c1_0) := (yG BK643.out 0).trans rfl; have hfz9_0 := yR BK643.out 0) | ((with_reducible refine gate_callee (f := 42) rfl ?_); refine gL 9 Try.func42 _ (dm (laws_eqInt64S.calls k _ _ l0_0 _ _ l1_0 true _ (C0_0.b HB) (C1_0.b HB) A3.out) fun nd => ?_)))
 go_ret
 exact ⟨kE, kR0 HB⟩

/-! ### laws_eqPointS: function 82 -/
def laws_eqPointS.l0 : Nat → List (S110) → List (S110) → Int → Option (Bool)
 | 0, _, _, _ => none
 | k + 1, x0, x1, x5 => if x5 < (x0.length : Int) then (if 0 ≤ x5 then (if x5 < (x1.length : Int) then ((laws_eqPoint.f k ((rd_T110 x0 x5).f0) ((rd_T110 x1 x5).f0)).bind fun t647 => (if t647 = true then (laws_eqPointS.l0 k x0 x1 (wrap64 (x5 + 1))) else (some false))) else (none)) else (none)) else (some true)
def laws_eqPointS.f (k : Nat) (l0 : List (S110)) (l1 : List (S110)) : Option (Bool) := if (l0.length : Int) = (l1.length : Int) then (laws_eqPointS.l0 k l0 l1 0) else (some false)
def laws_eqPointS.T6 : Bool × List (List Nat × List Nat) := (true, [([], []), ([], []), ([0, 1], [0, 1]), ([2], [2]), ([], []), ([], []), ([4, 5], [4, 5]), ([6], [6]), ([3, 7], [3, 7]), ([8], [8])])
def laws_eqPointS.B6 : List Nat := [0, 0, 3, 7, 0, 0, 48, 112, 255, 511]
theorem laws_eqPointS.tab6 : rtab .any (opsOf Try.f82 6) = laws_eqPointS.T6 := by kernel_rfl
theorem laws_eqPointS.bits6 : waitsOk laws_eqPointS.T6.2 laws_eqPointS.B6 = true := by kernel_rfl
theorem laws_eqPointS.calls (k : Nat) (A0 : Option Addr) (c0 : Nat) (l0 : List (S110)) (A1 : Option Addr) (c1 : Nat) (l1 : List (S110)) (r : Bool) (w : World) (C0 : Cm k110 w A0 c0 l0) (C1 : Cm k110 w A1 c1 l1) (h : laws_eqPointS.f k l0 l1 = some r) :
 Calls Try.prog 82 #[.slice A0 l0.length c0, .slice A1 l1.length c1] w fun e w' => e = .returned (.bool r) ∧ Below w.heap.size w w' := by
 have hu110 := Try.underlying110
 have HB := yD (Below.refl w.heap.size w)
 have H : (if (l0.length : Int) = (l1.length : Int) then (laws_eqPointS.l0 k l0 l1 0) else (some false)) = some r := h
 clear h
 replace H := sP H; rcases H with ⟨c3, c3b0, c3b1, H⟩ | ⟨c3, c3b0, c3b1, H⟩
 ·
  have c3b2 : (l0.length == l1.length) = false := by first | simpa using c3 | (simp at c3 ⊢; omega)
  obtain rfl := sJ H; go_enter Try.func82, Try.ntmps82
  go_wp2
  go_ret
  exact ⟨kE, kR1 HB⟩
 have c3b2 : (l0.length == l1.length) = true := by first | simpa using c3 | (simp at c3 ⊢; omega)
 clear c3
 have H' := yD H
 clear H; go_enter Try.func82, Try.ntmps82
 go_wp2
 go_loopg [5] k (fun kq v5 w' => ∃ (x5_1 : Int), v5 = .int .i64 x5_1 ∧ Aside0 (laws_eqPointS.l0 kq l0 l1 x5_1 = some r) ∧ Aside0 (kq ≤ k) ∧ Aside0 (Below w.heap.size w w'))
 case atStart => exact ⟨(0), kF, H', ⟨Nat.le_refl _⟩, ⟨kR1 HB⟩⟩
 case round =>
  clear H'
  obtain ⟨x5_1, rfl, HA, HK1, HB⟩ := hrel
  cases gk with
  | zero => exact absurd HA.out (by simp [laws_eqPointS.l0])
  | succ k1 =>
   have H := HA.out; clear HA
   simp only [laws_eqPointS.l0] at H
   replace H := sG H; rcases H with ⟨c4b0, H⟩ | ⟨c4b0, H⟩
   · obtain rfl := sJ H
     go_wp2
     go_ret
     exact ⟨kE, kR1 HB⟩
   replace ⟨c5b0, H⟩ := sE H
   replace ⟨c6b0, H⟩ := sE H
   replace ⟨t647, A7, H⟩ := sV H
   replace H := sS H; rcases H with ⟨rfl, H⟩ | ⟨rfl, H⟩
   ·
    obtain rfl := sJ H
    try go_wp2
    replace HB := yD (yP HB.out)
    obtain ⟨p645, q645, ad645, A645_0, c645_0, e645, hx645_0, HC645_0, HR645_0⟩ := sI (at_T110 C0.r x5_1)
    have hw645_0 := hx645_0; cases e645
    replace hx645_0 := kD HB hx645_0
    obtain ⟨p646, q646, ad646, A646_0, c646_0, e646, hx646_0, HC646_0, HR646_0⟩ := sI (at_T110 C1.r x5_1)
    have hw646_0 := hx646_0; cases e646
    replace hx646_0 := kD HB hx646_0
    refine s0 (m := 10) (S := fun w' => w'.cell? (ad645.add (x5_1).toNat) = some (.slice A645_0 ((rd_T110 l0 x5_1).f0).length c645_0) ∧ w'.cell? (ad646.add (x5_1).toNat) = some (.slice A646_0 ((rd_T110 l1 x5_1).f0).length c646_0)) laws_eqPointS.tab6 laws_eqPointS.bits6 ⟨(kC HB hw645_0), (kC HB hw646_0)⟩ fun hHeld HT_ HW_ => ?_
    generalize wr.drew = w11 at HB HR645_0 HR646_0 hx645_0 hx646_0 hHeld ⊢
    refine qa 10 0 1 ?_; refine qa 10 1 3 ?_; refine qa 10 2 7 ?_; refine qa 10 4 23 ?_; refine qa 10 5 55 ?_; refine qa 10 6 119 ?_; refine qc 10 3 127 hHeld ?_; refine qc 10 7 255 hHeld ?_
    refine qo 10 8 511 (some 25) fun K hK => ?_
    refine qg Try.func120 _ ((laws_eqPoint.calls k1 _ _ ((rd_T110 l0 x5_1).f0) _ _ ((rd_T110 l1 x5_1).f0) false _ (cB HR645_0 HC645_0 HB) (cB HR646_0 HC646_0 HB) A7.out).mono ?_)
    rintro e w12 ⟨rfl, hb⟩
    refine ⟨_, rfl, ?_⟩
    replace HB := zX HB hb
    refine hK.out _ _ ⟨(kC HB hw645_0), (kC HB hw646_0)⟩ (fun hHeld => ?_)
    clear hK K
    refine nZ 25 ?_
    refine qa 10 9 1023 ?_
    refine qd ?_
    try go_wp2
    go_ret
    exact ⟨kE, kR1 HB⟩
   have H' := yD H
   clear H
   try go_wp2
   replace HB := yD (yP HB.out)
   obtain ⟨p645, q645, ad645, A645_0, c645_0, e645, hx645_0, HC645_0, HR645_0⟩ := sI (at_T110 C0.r x5_1)
   have hw645_0 := hx645_0; cases e645
   replace hx645_0 := kD HB hx645_0
   obtain ⟨p646, q646, ad646, A646_0, c646_0, e646, hx646_0, HC646_0, HR646_0⟩ := sI (at_T110 C1.r x5_1)
   have hw646_0 := hx646_0; cases e646
   replace hx646_0 := kD HB hx646_0
   refine s0 (m := 10) (S := fun w' => w'.cell? (ad645.add (x5_1).toNat) = some (.slice A645_0 ((rd_T110 l0 x5_1).f0).length c645_0) ∧ w'.cell? (ad646.add (x5_1).toNat) = some (.slice A646_0 ((rd_T110 l1 x5_1).f0).length c646_0)) laws_eqPointS.tab6 laws_eqPointS.bits6 ⟨(kC HB hw645_0), (kC HB hw646_0)⟩ fun hHeld HT_ HW_ => ?_
   generalize wr.drew = w9 at HB HR645_0 HR646_0 hx645_0 hx646_0 hHeld ⊢
   refine qa 10 0 1 ?_; refine qa 10 1 3 ?_; refine qa 10 2 7 ?_; refine qa 10 4 23 ?_; refine qa 10 5 55 ?_; refine qa 10 6 119 ?_; refine qc 10 3 127 hHeld ?_; refine qc 10 7 255 hHeld ?_
   refine qo 10 8 511 (some 25) fun K hK => ?_
   refine qg Try.func120 _ ((laws_eqPoint.calls k1 _ _ ((rd_T110 l0 x5_1).f0) _ _ ((rd_T110 l1 x5_1).f0) true _ (cB HR645_0 HC645_0 HB) (cB HR646_0 HC646_0 HB) A7.out).mono ?_)
   rintro e w10 ⟨rfl, hb⟩
   refine ⟨_, rfl, ?_⟩
   replace HB := zX HB hb
   refine hK.out _ _ ⟨(kC HB hw645_0), (kC HB hw646_0)⟩ (fun hHeld => ?_)
   clear hK K
   refine nZ 25 ?_
   refine qa 10 9 1023 ?_
   refine qd ?_
   try go_wp2
   go_roundg k1
   case measure => have := HK1.out; omega
   case rel => exact ⟨(wrap64 (x5_1 + 1)), kF, H', ⟨by have := HK1.out; omega⟩, ⟨kR1 HB⟩⟩
/-! ### laws_eqSelection: function 43 -/
def laws_eqSelection.f (k : Nat) (a0_0 : Int) (l0_1 : List Int) (l0_2 : List Int) (l0_3 : List Int) (l0_4 : List Int) (l0_5 : List (S110)) (a1_0 : Int) (l1_1 : List Int) (l1_2 : List Int) (l1_3 : List Int) (l1_4 : List Int) (l1_5 : List (S110)) : Option (Bool) := if a0_0 = a1_0 then ((laws_eqInt64S.f k l0_1 l1_1).bind fun t650 => (if t650 = true then ((laws_eqInt64S.f k l0_2 l1_2).bind fun t651 => (if t651 = true then ((laws_eqInt64S.f k l0_3 l1_3).bind fun t652 => (if t652 = true then ((laws_eqInt64S.f k l0_4 l1_4).bind fun t653 => (if t653 = true then ((laws_eqPointS.f k l0_5 l1_5).bind fun t654 => (if t654 = true then (some true) else (some false))) else (some false))) else (some false))) else (some false))) else (some false))) else (some false)
theorem laws_eqSelection.calls (k : Nat) (a0_0 : Int) (A0_1 : Option Addr) (c0_1 : Nat) (l0_1 : List Int) (A0_2 : Option Addr) (c0_2 : Nat) (l0_2 : List Int) (A0_3 : Option Addr) (c0_3 : Nat) (l0_3 : List Int) (A0_4 : Option Addr) (c0_4 : Nat) (l0_4 : List Int) (A0_5 : Option Addr) (c0_5 : Nat) (l0_5 : List (S110)) (a1_0 : Int) (A1_1 : Option Addr) (c1_1 : Nat) (l1_1 : List Int) (A1_2 : Option Addr) (c1_2 : Nat) (l1_2 : List Int) (A1_3 : Option Addr) (c1_3 : Nat) (l1_3 : List Int) (A1_4 : Option Addr) (c1_4 : Nat) (l1_4 : List Int) (A1_5 : Option Addr) (c1_5 : Nat) (l1_5 : List (S110)) (r : Bool) (w : World) (C0_1 : Cm (Kd.int .i64) w A0_1 c0_1 l0_1) (C0_2 : Cm (Kd.int .i64) w A0_2 c0_2 l0_2) (C0_3 : Cm (Kd.int .i64) w A0_3 c0_3 l0_3) (C0_4 : Cm (Kd.int .i64) w A0_4 c0_4 l0_4) (C0_5 : Cm k110 w A0_5 c0_5 l0_5) (C1_1 : Cm (Kd.int .i64) w A1_1 c1_1 l1_1) (C1_2 : Cm (Kd.int .i64) w A1_2 c1_2 l1_2) (C1_3 : Cm (Kd.int .i64) w A1_3 c1_3 l1_3) (C1_4 : Cm (Kd.int .i64) w A1_4 c1_4 l1_4) (C1_5 : Cm k110 w A1_5 c1_5 l1_5) (h : laws_eqSelection.f k a0_0 l0_1 l0_2 l0_3 l0_4 l0_5 a1_0 l1_1 l1_2 l1_3 l1_4 l1_5 = some r) :
 Calls Try.prog 43 #[.agg #[.int .i64 a0_0, .slice A0_1 l0_1.length c0_1, .slice A0_2 l0_2.length c0_2, .slice A0_3 l0_3.length c0_3, .slice A0_4 l0_4.length c0_4, .slice A0_5 l0_5.length c0_5], .agg #[.int .i64 a1_0, .slice A1_1 l1_1.length c1_1, .slice A1_2 l1_2.length c1_2, .slice A1_3 l1_3.length c1_3, .slice A1_4 l1_4.length c1_4, .slice A1_5 l1_5.length c1_5]] w fun e w' => e = .returned (.bool r) ∧ Below w.heap.size w w' := by
 have hu55 := Try.underlying55
 have HB := yD (Below.refl w.heap.size w)
 have H : (if a0_0 = a1_0 then ((laws_eqInt64S.f k l0_1 l1_1).bind fun t650 => (if t650 = true then ((laws_eqInt64S.f k l0_2 l1_2).bind fun t651 => (if t651 = true then ((laws_eqInt64S.f k l0_3 l1_3).bind fun t652 => (if t652 = true then ((laws_eqInt64S.f k l0_4 l1_4).bind fun t653 => (if t653 = true then ((laws_eqPointS.f k l0_5 l1_5).bind fun t654 => (if t654 = true then (some true) else (some false))) else (some false))) else (some false))) else (some false))) else (some false))) else (some false)) = some r := h
 clear h
 replace H := sP H; rcases H with ⟨c3, c3b0, c3b1, H⟩ | ⟨-, c3b0, c3b1, H⟩
 ·
  obtain rfl := sJ H; go_enter Try.func43, Try.ntmps43
  go_wp2_with (first | ((with_reducible refine gate_dst (N := 2) rfl ?_); refine bF (N := 2) (cs := #[.int .i64 a0_0, .slice A0_1 l0_1.length c0_1, .slice A0_2 l0_2.length c0_2, .slice A0_3 l0_3.length c0_3, .slice A0_4 l0_4.length c0_4, .slice A0_5 l0_5.length c0_5]) (t := 55) HB ?_; intro gb648 w46 BK648 GW648 HB) | ((with_reducible refine gate_dst (N := 3) rfl ?_); refine bE (N := 3) (cs := #[.int .i64 a1_0, .slice A1_1 l1_1.length c1_1, .slice A1_2 l1_2.length c1_2, .slice A1_3 l1_3.length c1_3, .slice A1_4 l1_4.length c1_4, .slice A1_5 l1_5.length c1_5]) (t := 55) ?_; intro gb649 hg w47 hbox hb; have BK649 := yD (hbox); have GW649 := sW hg HB; replace HB := zX HB hb; have NB648_649 := yD ((by rw [hg]; exact Nat.ne_of_lt (blk_lt (kN BK648)) : gb648 ≠ gb649)); have NB649_648 := yD ((by rw [hg]; exact Nat.ne_of_gt (blk_lt (kN BK648)) : gb649 ≠ gb648)); replace BK648 := zY BK648 hb; clear hb hbox hg; have hnb48 := NB648_649.out; have hnc48 := NB649_648.out; have := cf6_ BK648.out; have := cf6_ BK649.out))
  go_ret
  exact ⟨kE, kR0 HB⟩
 replace ⟨t650, A4, H⟩ := sV H
 replace H := sS H; rcases H with ⟨rfl, H⟩ | ⟨rfl, H⟩
 ·
  obtain rfl := sJ H; go_enter Try.func43, Try.ntmps43
  go_wp2_with (first | ((with_reducible refine gate_dst (N := 2) rfl ?_); refine bF (N := 2) (cs := #[.int .i64 a0_0, .slice A0_1 l0_1.length c0_1, .slice A0_2 l0_2.length c0_2, .slice A0_3 l0_3.length c0_3, .slice A0_4 l0_4.length c0_4, .slice A0_5 l0_5.length c0_5]) (t := 55) HB ?_; intro gb648 w41 BK648 GW648 HB) | ((with_reducible refine gate_dst (N := 3) rfl ?_); refine bE (N := 3) (cs := #[.int .i64 a1_0, .slice A1_1 l1_1.length c1_1, .slice A1_2 l1_2.length c1_2, .slice A1_3 l1_3.length c1_3, .slice A1_4 l1_4.length c1_4, .slice A1_5 l1_5.length c1_5]) (t := 55) ?_; intro gb649 hg w42 hbox hb; have BK649 := yD (hbox); have GW649 := sW hg HB; replace HB := zX HB hb; have NB648_649 := yD ((by rw [hg]; exact Nat.ne_of_lt (blk_lt (kN BK648)) : gb648 ≠ gb649)); have NB649_648 := yD ((by rw [hg]; exact Nat.ne_of_gt (blk_lt (kN BK648)) : gb649 ≠ gb648)); replace BK648 := zY BK648 hb; clear hb hbox hg; have hnb43 := NB648_649.out; have hnc43 := NB649_648.out; have := cf6_ BK648.out; have := cf6_ BK649.out) | ((with_reducible refine gate_callee (f := 42) rfl ?_); refine gL 14 Try.func42 _ (dm (laws_eqInt64S.calls k _ _ l0_1 _ _ l1_1 false _ (C0_1.b HB) (C1_1.b HB) A4.out) fun nd => ?_)))
  go_ret
  exact ⟨kE, kR0 HB⟩
 replace ⟨t651, A6, H⟩ := sV H
 replace H := sS H; rcases H with ⟨rfl, H⟩ | ⟨rfl, H⟩
 ·
  obtain rfl := sJ H; go_enter Try.func43, Try.ntmps43
  go_wp2_with (first | ((with_reducible refine gate_dst (N := 2) rfl ?_); refine bF (N := 2) (cs := #[.int .i64 a0_0, .slice A0_1 l0_1.length c0_1, .slice A0_2 l0_2.length c0_2, .slice A0_3 l0_3.length c0_3, .slice A0_4 l0_4.length c0_4, .slice A0_5 l0_5.length c0_5]) (t := 55) HB ?_; intro gb648 w36 BK648 GW648 HB) | ((with_reducible refine gate_dst (N := 3) rfl ?_); refine bE (N := 3) (cs := #[.int .i64 a1_0, .slice A1_1 l1_1.length c1_1, .slice A1_2 l1_2.length c1_2, .slice A1_3 l1_3.length c1_3, .slice A1_4 l1_4.length c1_4, .slice A1_5 l1_5.length c1_5]) (t := 55) ?_; intro gb649 hg w37 hbox hb; have BK649 := yD (hbox); have GW649 := sW hg HB; replace HB := zX HB hb; have NB648_649 := yD ((by rw [hg]; exact Nat.ne_of_lt (blk_lt (kN BK648)) : gb648 ≠ gb649)); have NB649_648 := yD ((by rw [hg]; exact Nat.ne_of_gt (blk_lt (kN BK648)) : gb649 ≠ gb648)); replace BK648 := zY BK648 hb; clear hb hbox hg; have hnb38 := NB648_649.out; have hnc38 := NB649_648.out; have := cf6_ BK648.out; have := cf6_ BK649.out) | ((with_reducible refine gate_callee (f := 42) rfl ?_); refine gL 14 Try.func42 _ (dm (laws_eqInt64S.calls k _ _ l0_1 _ _ l1_1 true _ (C0_1.b HB) (C1_1.b HB) A4.out) fun nd => ?_)) | ((with_reducible refine gate_callee (f := 42) rfl ?_); refine gL 20 Try.func42 _ (dm (laws_eqInt64S.calls k _ _ l0_2 _ _ l1_2 false _ (C0_2.b HB) (C1_2.b HB) A6.out) fun nd => ?_)))
  go_ret
  exact ⟨kE, kR0 HB⟩
 replace ⟨t652, A8, H⟩ := sV H
 replace H := sS H; rcases H with ⟨rfl, H⟩ | ⟨rfl, H⟩
 ·
  obtain rfl := sJ H; go_enter Try.func43, Try.ntmps43
  go_wp2_with (first | ((with_reducible refine gate_dst (N := 2) rfl ?_); refine bF (N := 2) (cs := #[.int .i64 a0_0, .slice A0_1 l0_1.length c0_1, .slice A0_2 l0_2.length c0_2, .slice A0_3 l0_3.length c0_3, .slice A0_4 l0_4.length c0_4, .slice A0_5 l0_5.length c0_5]) (t := 55) HB ?_; intro gb648 w31 BK648 GW648 HB) | ((with_reducible refine gate_dst (N := 3) rfl ?_); refine bE (N := 3) (cs := #[.int .i64 a1_0, .slice A1_1 l1_1.length c1_1, .slice A1_2 l1_2.length c1_2, .slice A1_3 l1_3.length c1_3, .slice A1_4 l1_4.length c1_4, .slice A1_5 l1_5.length c1_5]) (t := 55) ?_; intro gb649 hg w32 hbox hb; have BK649 := yD (hbox); have GW649 := sW hg HB; replace HB := zX HB hb; have NB648_649 := yD ((by rw [hg]; exact Nat.ne_of_lt (blk_lt (kN BK648)) : gb648 ≠ gb649)); have NB649_648 := yD ((by rw [hg]; exact Nat.ne_of_gt (blk_lt (kN BK648)) : gb649 ≠ gb648)); replace BK648 := zY BK648 hb; clear hb hbox hg; have hnb33 := NB648_649.out; have hnc33 := NB649_648.out; have := cf6_ BK648.out; have := cf6_ BK649.out) | ((with_reducible refine gate_callee (f := 42) rfl ?_); refine gL 14 Try.func42 _ (dm (laws_eqInt64S.calls k _ _ l0_1 _ _ l1_1 true _ (C0_1.b HB) (C1_1.b HB) A4.out) fun nd => ?_)) | ((with_reducible refine gate_callee (f := 42) rfl ?_); refine gL 20 Try.func42 _ (dm (laws_eqInt64S.calls k _ _ l0_2 _ _ l1_2 true _ (C0_2.b HB) (C1_2.b HB) A6.out) fun nd => ?_)) | ((with_reducible refine gate_callee (f := 42) rfl ?_); refine gL 26 Try.func42 _ (dm (laws_eqInt64S.calls k _ _ l0_3 _ _ l1_3 false _ (C0_3.b HB) (C1_3.b HB) A8.out) fun nd => ?_)))
  go_ret
  exact ⟨kE, kR0 HB⟩
 replace ⟨t653, A10, H⟩ := sV H
 replace H := sS H; rcases H with ⟨rfl, H⟩ | ⟨rfl, H⟩
 ·
  obtain rfl := sJ H; go_enter Try.func43, Try.ntmps43
  go_wp2_with (first | ((with_reducible refine gate_dst (N := 2) rfl ?_); refine bF (N := 2) (cs := #[.int .i64 a0_0, .slice A0_1 l0_1.length c0_1, .slice A0_2 l0_2.length c0_2, .slice A0_3 l0_3.length c0_3, .slice A0_4 l0_4.length c0_4, .slice A0_5 l0_5.length c0_5]) (t := 55) HB ?_; intro gb648 w26 BK648 GW648 HB) | ((with_reducible refine gate_dst (N := 3) rfl ?_); refine bE (N := 3) (cs := #[.int .i64 a1_0, .slice A1_1 l1_1.length c1_1, .slice A1_2 l1_2.length c1_2, .slice A1_3 l1_3.length c1_3, .slice A1_4 l1_4.length c1_4, .slice A1_5 l1_5.length c1_5]) (t := 55) ?_; intro gb649 hg w27 hbox hb; have BK649 := yD (hbox); have GW649 := sW hg HB; replace HB := zX HB hb; have NB648_649 := yD ((by rw [hg]; exact Nat.ne_of_lt (blk_lt (kN BK648)) : gb648 ≠ gb649)); have NB649_648 := yD ((by rw [hg]; exact Nat.ne_of_gt (blk_lt (kN BK648)) : gb649 ≠ gb648)); replace BK648 := zY BK648 hb; clear hb hbox hg; have hnb28 := NB648_649.out; have hnc28 := NB649_648.out; have := cf6_ BK648.out; have := cf6_ BK649.out) | ((with_reducible refine gate_callee (f := 42) rfl ?_); refine gL 14 Try.func42 _ (dm (laws_eqInt64S.calls k _ _ l0_1 _ _ l1_1 true _ (C0_1.b HB) (C1_1.b HB) A4.out) fun nd => ?_)) | ((with_reducible refine gate_callee (f := 42) rfl ?_); refine gL 20 Try.func42 _ (dm (laws_eqInt64S.calls k _ _ l0_2 _ _ l1_2 true _ (C0_2.b HB) (C1_2.b HB) A6.out) fun nd => ?_)) | ((with_reducible refine gate_callee (f := 42) rfl ?_); refine gL 26 Try.func42 _ (dm (laws_eqInt64S.calls k _ _ l0_3 _ _ l1_3 true _ (C0_3.b HB) (C1_3.b HB) A8.out) fun nd => ?_)) | ((with_reducible refine gate_callee (f := 42) rfl ?_); refine gL 32 Try.func42 _ (dm (laws_eqInt64S.calls k _ _ l0_4 _ _ l1_4 false _ (C0_4.b HB) (C1_4.b HB) A10.out) fun nd => ?_)))
  go_ret
  exact ⟨kE, kR0 HB⟩
 replace ⟨t654, A12, H⟩ := sV H
 replace H := sS H; rcases H with ⟨rfl, H⟩ | ⟨rfl, H⟩
 ·
  obtain rfl := sJ H; go_enter Try.func43, Try.ntmps43
  go_wp2_with (first | ((with_reducible refine gate_dst (N := 2) rfl ?_); refine bF (N := 2) (cs := #[.int .i64 a0_0, .slice A0_1 l0_1.length c0_1, .slice A0_2 l0_2.length c0_2, .slice A0_3 l0_3.length c0_3, .slice A0_4 l0_4.length c0_4, .slice A0_5 l0_5.length c0_5]) (t := 55) HB ?_; intro gb648 w20 BK648 GW648 HB) | ((with_reducible refine gate_dst (N := 3) rfl ?_); refine bE (N := 3) (cs := #[.int .i64 a1_0, .slice A1_1 l1_1.length c1_1, .slice A1_2 l1_2.length c1_2, .slice A1_3 l1_3.length c1_3, .slice A1_4 l1_4.length c1_4, .slice A1_5 l1_5.length c1_5]) (t := 55) ?_; intro gb649 hg w21 hbox hb; have BK649 := yD (hbox); have GW649 := sW hg HB; replace HB := zX HB hb; have NB648_649 := yD ((by rw [hg]; exact Nat.ne_of_lt (blk_lt (kN BK648)) : gb648 ≠ gb649)); have NB649_648 := yD ((by rw [hg]; exact Nat.ne_of_gt (blk_lt (kN BK648)) : gb649 ≠ gb648)); replace BK648 := zY BK648 hb; clear hb hbox hg; have hnb22 := NB648_649.out; have hnc22 := NB649_648.out; have := cf6_ BK648.out; have := cf6_ BK649.out) | ((with_reducible refine gate_callee (f := 42) rfl ?_); refine gL 14 Try.func42 _ (dm (laws_eqInt64S.calls k _ _ l0_1 _ _ l1_1 true _ (C0_1.b HB) (C1_1.b HB) A4.out) fun nd => ?_)) | ((with_reducible refine gate_callee (f := 42) rfl ?_); refine gL 20 Try.func42 _ (dm (laws_eqInt64S.calls k _ _ l0_2 _ _ l1_2 true _ (C0_2.b HB) (C1_2.b HB) A6.out) fun nd => ?_)) | ((with_reducible refine gate_callee (f := 42) rfl ?_); refine gL 26 Try.func42 _ (dm (laws_eqInt64S.calls k _ _ l0_3 _ _ l1_3 true _ (C0_3.b HB) (C1_3.b HB) A8.out) fun nd => ?_)) | ((with_reducible refine gate_callee (f := 42) rfl ?_); refine gL 32 Try.func42 _ (dm (laws_eqInt64S.calls k _ _ l0_4 _ _ l1_4 true _ (C0_4.b HB) (C1_4.b HB) A10.out) fun nd => ?_)) | ((with_reducible refine gate_callee (f := 82) rfl ?_); refine gL 38 Try.func82 _ ((laws_eqPointS.calls k _ _ l0_5 _ _ l1_5 false _ (C0_5.b HB) (C1_5.b HB) A12.out).mono ?_); rintro e w25 ⟨rfl, hb⟩; refine ⟨_, rfl, ?_⟩; replace BK648 := zY BK648 hb; replace BK649 := zY BK649 hb; replace HB := zX HB hb; clear hb))
  go_ret
  exact ⟨kE, kR0 HB⟩
 obtain rfl := sJ H; go_enter Try.func43, Try.ntmps43
 go_wp2_with (first | ((with_reducible refine gate_dst (N := 2) rfl ?_); refine bF (N := 2) (cs := #[.int .i64 a0_0, .slice A0_1 l0_1.length c0_1, .slice A0_2 l0_2.length c0_2, .slice A0_3 l0_3.length c0_3, .slice A0_4 l0_4.length c0_4, .slice A0_5 l0_5.length c0_5]) (t := 55) HB ?_; intro gb648 w14 BK648 GW648 HB) | ((with_reducible refine gate_dst (N := 3) rfl ?_); refine bE (N := 3) (cs := #[.int .i64 a1_0, .slice A1_1 l1_1.length c1_1, .slice A1_2 l1_2.length c1_2, .slice A1_3 l1_3.length c1_3, .slice A1_4 l1_4.length c1_4, .slice A1_5 l1_5.length c1_5]) (t := 55) ?_; intro gb649 hg w15 hbox hb; have BK649 := yD (hbox); have GW649 := sW hg HB; replace HB := zX HB hb; have NB648_649 := yD ((by rw [hg]; exact Nat.ne_of_lt (blk_lt (kN BK648)) : gb648 ≠ gb649)); have NB649_648 := yD ((by rw [hg]; exact Nat.ne_of_gt (blk_lt (kN BK648)) : gb649 ≠ gb648)); replace BK648 := zY BK648 hb; clear hb hbox hg; have hnb16 := NB648_649.out; have hnc16 := NB649_648.out; have := cf6_ BK648.out; have := cf6_ BK649.out) | ((with_reducible refine gate_callee (f := 42) rfl ?_); refine gL 14 Try.func42 _ (dm (laws_eqInt64S.calls k _ _ l0_1 _ _ l1_1 true _ (C0_1.b HB) (C1_1.b HB) A4.out) fun nd => ?_)) | ((with_reducible refine gate_callee (f := 42) rfl ?_); refine gL 20 Try.func42 _ (dm (laws_eqInt64S.calls k _ _ l0_2 _ _ l1_2 true _ (C0_2.b HB) (C1_2.b HB) A6.out) fun nd => ?_)) | ((with_reducible refine gate_callee (f := 42) rfl ?_); refine gL 26 Try.func42 _ (dm (laws_eqInt64S.calls k _ _ l0_3 _ _ l1_3 true _ (C0_3.b HB) (C1_3.b HB) A8.out) fun nd => ?_)) | ((with_reducible refine gate_callee (f := 42) rfl ?_); refine gL 32 Try.func42 _ (dm (laws_eqInt64S.calls k _ _ l0_4 _ _ l1_4 true _ (C0_4.b HB) (C1_4.b HB) A10.out) fun nd => ?_)) | ((with_reducible refine gate_callee (f := 82) rfl ?_); refine gL 38 Try.func82 _ ((laws_eqPointS.calls k _ _ l0_5 _ _ l1_5 true _ (C0_5.b HB) (C1_5.b HB) A12.out).mono ?_); rintro e w19 ⟨rfl, hb⟩; refine ⟨_, rfl, ?_⟩; replace BK648 := zY BK648 hb; replace BK649 := zY BK649 hb; replace HB := zX HB hb; clear hb))
 go_ret
 exact ⟨kE, kR0 HB⟩

/-! ### laws_markInt64S: function 44 -/
def laws_markInt64S.l0 : Nat → List Int → Int → Int → Option (Int × List Int)
 | 0, _, _, _ => none
 | k + 1, x0, x1, x5 => if x5 < (x0.length : Int) then (if 0 ≤ x5 then (laws_markInt64S.l0 k (x0.set (x5 : Int).toNat x1) (wrap64 (x1 + 1)) (wrap64 (x5 + 1))) else (none)) else (some (x1, x0))
def laws_markInt64S.f (k : Nat) (l0 : List Int) (a1 : Int) : Option (Int × List Int) := laws_markInt64S.l0 k l0 a1 0
theorem laws_markInt64S.calls (k : Nat) (P0_ : Nat → Prop) (u9000_ : Value) (l0 : List Int) (a1 : Int) (r1 : Int) (r2 : List Int) (w0 w : World) (hB : Below w0.heap.size w0 w) (ho0 : Kd.R (Kd.int .i64) 2 w w0.heap.size P0_ u9000_ l0) (h : laws_markInt64S.f k l0 a1 = some (r1, r2)) :
 Calls Try.prog 44 #[u9000_, .int .i64 a1] w fun e w' => e = .returned (.int .i64 r1) ∧ Kd.R (Kd.int .i64) 2 w' w0.heap.size (fun k_ => (P0_ k_ ∨ w.heap.size ≤ k_)) u9000_ r2 ∧ Below w0.heap.size w0 w' ∧ Kept w w' (fun k_ => P0_ k_) := by
 have HO0 := yD (show Kd.R (Kd.int .i64) 2 w w0.heap.size (fun k_ => (P0_ k_ ∨ w.heap.size ≤ k_)) u9000_ l0 from zF ho0 (fun k_ hk => (.inl hk)))
 have HK := yD (Kept.refl w (fun k_ => P0_ k_))
 have HW0 := yD hB.size
 have HB := yD hB
 clear hB
 have H : (laws_markInt64S.l0 k l0 a1 0) = some (r1, r2) := h
 clear h
 have H' := yD H
 clear H; go_enter Try.func44, Try.ntmps44
 go_wp2
 go_loopg [1, 5] k (fun kq v1 v5 w' => ∃ (x0_1 : List Int) (x1_1 : Int) (x5_1 : Int), v1 = .int .i64 x1_1 ∧ v5 = .int .i64 x5_1 ∧ Aside0 (laws_markInt64S.l0 kq x0_1 x1_1 x5_1 = some (r1, r2)) ∧ Aside0 (kq ≤ k) ∧ Aside0 (Kd.R (Kd.int .i64) 2 w' w0.heap.size (fun k_ => (P0_ k_ ∨ w.heap.size ≤ k_)) u9000_ x0_1) ∧ Aside0 (Kept w w' (fun k_ => P0_ k_)) ∧ Aside0 (Below w0.heap.size w0 w'))
 case atStart => exact ⟨(l0), (a1), (0), kF, kF, H', ⟨Nat.le_refl _⟩, ⟨kA HO0⟩, ⟨kR3 HK⟩, ⟨kR1 HB⟩⟩
 case round =>
  clear H'
  obtain ⟨x0_1, x1_1, x5_1, rfl, rfl, HA, HK1, HO_0, HK, HB⟩ := hrel
  cases gk with
  | zero => exact absurd HA.out (by simp [laws_markInt64S.l0])
  | succ k1 =>
   have H := HA.out; clear HA
   simp only [laws_markInt64S.l0] at H
   replace H := sG H; rcases H with ⟨c3b0, H⟩ | ⟨c3b0, H⟩
   ·
    simp only [Option.some.injEq, Prod.mk.injEq] at H
    obtain ⟨rfl, rfl⟩ := H
    obtain ⟨Ao9, co9, eo9⟩ := Kd.R_slice HO_0.out
    subst eo9
    go_wp2
    go_ret
    exact ⟨kE, kA HO_0, kR1 HB, kR3 HK⟩
   replace ⟨c4b0, H⟩ := sE H
   generalize hy655 : ((x0_1.set (x5_1 : Int).toNat x1_1) : List Int) = y655 at H
   have Ny655 := yD hy655.symm
   clear hy655
   have H' := yD H
   clear H
   obtain ⟨Ao6, co6, eo6⟩ := Kd.R_slice HO_0.out
   subst eo6
   have p5 : 0 ≤ (x5_1 : Int) := zP (by assumption)
   have q5 : (x5_1 : Int) < ((x0_1.length : Int) : Int) := zP (by assumption)
   obtain ⟨go5, co5, eo5, gb5, gl5, cl5, HG5⟩ := Kd.R_form HO_0.out (by omega)
   (first | cases eo5 | (injection eo5 with ea_ en_ ec_; (first | subst ea_ | (injection ea_ with ea_; subst ea_)); subst ec_; clear en_))
   have GB5 := yD gb5
   have GG5 := yD HG5
   clear gb5 gl5 HG5
   have HMgo5 := yD (show (P0_ go5 ∨ w.heap.size ≤ go5) from (HO_0.out.1 _ rfl))
   obtain ⟨hx5_0, hf5_0⟩ := Kd.R_celln 0 HO_0.out (x5_1 : Int) p5 q5
   replace p5 := eq_true p5; replace q5 := eq_true q5
   have HP7 := Kd.R_putg HO_0.out (x5_1 : Int) x1_1
   go_wp2_with (first | ((with_reducible refine gate_store (t := 2) (p := 15) rfl ?_); refine store_event (t := 2) (p := 15) (v := ?vo_w8) (w1 := (wr.setCell ⟨go5, (x5_1 : Int).toNat, none⟩ (.int .i64 x1_1))) ?hg ?ho ?hn ?hr ?_; (case ho => rfl); (case hg => rfl); (case hn => rfl); (case hr => first | (go_simp; done) | (go_simp; rfl)); intro w8 hw; have hg : wr.grownBy w8 (some go5) := (by rw [hw]; exact HP7.2); have hp_ : Kd.R (Kd.int .i64) 2 w8 w0.heap.size (fun k_ => (P0_ k_ ∨ w.heap.size ≤ k_)) (.slice (some ⟨go5, 0, none⟩) x0_1.length co6) y655 := (by rw [hw, Ny655.out]; exact HP7.1); clear HP7; replace HB := yD ((by rw [hw]; exact yE (HB.out) GB5.out : Below w0.heap.size w0 w8)); replace HK := yD (Kept.of_grown (S := (fun k_ => P0_ k_)) hg (kR3 HK) (fun k_ e_ => (HO_0.out.1 k_ e_))); replace HO_0 := yD (hp_); clear hg hw hp_))
   go_roundg k1
   case measure => have := HK1.out; omega
   case rel => exact ⟨(y655), (wrap64 (x1_1 + 1)), (wrap64 (x5_1 + 1)), kF, kF, H', ⟨by have := HK1.out; omega⟩, ⟨kA HO_0⟩, ⟨kR3 HK⟩, ⟨kR1 HB⟩⟩

/-! ### laws_markPointS: function 83 -/
def laws_markPointS.l0 : Nat → List (S110) → Int → Int → Option (Int × List (S110))
 | 0, _, _, _ => none
 | k + 1, x0, x1, x5 => if x5 < (x0.length : Int) then (if 0 ≤ x5 then ((laws_markInt64S.f k ((rd_T110 x0 x5).f0) x1).bind fun ta => (laws_markPointS.l0 k (x0.set x5.toNat ⟨ta.2⟩) ta.1 (wrap64 (x5 + 1)))) else none) else some (x1, x0)
def laws_markPointS.f (k : Nat) (l0 : List (S110)) (a1 : Int) : Option (Int × List (S110)) := laws_markPointS.l0 k l0 a1 0
theorem laws_markPointS.calls (k : Nat) (P0_ : Nat → Prop) (u9000_ : Value) (l0 : List (S110)) (a1 : Int) (r1 : Int) (r2 : List (S110)) (w0 w : World) (hB : Below w0.heap.size w0 w) (ho0 : Kd.S k110 110 w w0.heap.size P0_ u9000_ l0) (h : laws_markPointS.f k l0 a1 = some (r1, r2)) :
 Calls Try.prog 83 #[u9000_, .int .i64 a1] w fun e w' => e = .returned (.int .i64 r1) ∧ Kd.S k110 110 w' w0.heap.size (fun k_ => (P0_ k_ ∨ w.heap.size ≤ k_)) u9000_ r2 ∧ Below w0.heap.size w0 w' ∧ Kept w w' (fun k_ => P0_ k_) ∧ r2.length = l0.length := by
 obtain ⟨A0, c0, rfl⟩ := Kd.S_slice ho0
 have HO_ := Aside0.mk ho0; have HB_ := Aside0.mk hB; have H' := Aside0.mk (show laws_markPointS.l0 k l0 a1 0 = some (r1, r2) from h)
 clear ho0 hB h
 go_enter Try.func83, Try.ntmps83
 go_wp2
 go_loopg [1, 5] k (fun kq v1 v5 w' => ∃ (x1_1 : Int) (x5_1 : Int) (xs : List (S110)), v1 = .int .i64 x1_1 ∧ v5 = .int .i64 x5_1 ∧ Aside0 (laws_markPointS.l0 kq xs x1_1 x5_1 = some (r1, r2)) ∧ Aside0 (kq ≤ k) ∧ Aside0 (xs.length = l0.length) ∧ Aside0 (Kd.S k110 110 w' w0.heap.size P0_ (.slice A0 l0.length c0) xs) ∧ Aside0 (Below w0.heap.size w0 w') ∧ Aside0 (Kept w w' (fun k_ => P0_ k_)))
 case atStart => exact ⟨a1, 0, l0, rfl, rfl, H', ⟨Nat.le_refl _⟩, ⟨rfl⟩, ⟨by (with_reducible repeat (first | apply Kd.S_alloc | apply Kd.S_drewN | apply Kd.S_drew)); exact HO_.out⟩, ⟨kR2 HB_⟩, ⟨by (with_reducible repeat (first | apply Kept.alloc | apply Kept.drewN | apply Kept.drew)); exact Kept.refl _ _⟩⟩
 case round =>
  clear H' HO_ HB_
  obtain ⟨x1_1, x5_1, xs, rfl, rfl, HA, HK1, HL, HO, HB, HK⟩ := hrel
  cases gk with
  | zero => exact absurd HA.out (by simp [laws_markPointS.l0])
  | succ k1 =>
   have H := HA.out
   clear HA
   simp only [laws_markPointS.l0] at H
   replace H := sC H; rcases H with ⟨c3, H⟩ | ⟨c3, H⟩
   · have c3b0 : decide (x5_1 < (l0.length : Int)) = false := decide_eq_false (by rw [← HL.out]; exact c3)
     obtain ⟨rfl, rfl⟩ := Prod.mk.inj (Option.some.inj H)
     go_wp2
     go_ret
     exact ⟨by first | rfl | (simp; done), by (with_reducible repeat (first | apply Kd.S_alloc | apply Kd.S_drewN | apply Kd.S_drew)); exact Kd.S_mono HO.out (fun _ hk => .inl hk), kR2 HB, by (with_reducible repeat (first | apply Kept.alloc | apply Kept.drewN | apply Kept.drew)); exact HK.out, HL.out⟩
   have c3b0 : decide (x5_1 < (l0.length : Int)) = true := decide_eq_true (by rw [← HL.out]; exact c3)
   replace ⟨c4, H⟩ := sD H
   have c4b0 : decide (0 ≤ x5_1) = true := decide_eq_true c4
   obtain ⟨⟨ta, la⟩, Aa0, H⟩ := Option.bind_eq_some_iff.mp H
   have Aa := Aside0.mk Aa0; clear Aa0
   have H' := Aside0.mk H
   clear H
   have hlt : (x5_1 : Int) < (l0.length : Int) := by rw [← HL.out]; exact c3
   obtain ⟨ad, rfl⟩ : ∃ ad, A0 = some ad := by
    obtain ⟨_, _, h2⟩ := (Kd.S_reads' HO.out).2.2
    obtain ⟨ad, he, _⟩ := h2 (by omega)
    exact ⟨ad, he⟩
   obtain ⟨go, rfl⟩ := Kd.R_head (Kd.S_R HO.out)
   obtain ⟨oki, ce, hcl, hM, hcc, hfr, hoki, hH⟩ := Kd.S_elem HO.out (rd_T110 [] 0) (x5_1 : Int) c4 hlt
   obtain ⟨v0, rfl, g0⟩ := k110_openM hM
   have hx0 : wr.cell? ⟨go, (x5_1 : Int).toNat, none⟩ = some (v0) := by have h_ := hcc 0 _ rfl; have e_ : (x5_1 : Int).toNat * k110.sz + 0 = (x5_1 : Int).toNat := (by show (x5_1 : Int).toNat * 1 + 0 = _; omega); rw [e_] at h_; exact h_
   have p3 : (0 ≤ x5_1) = True := eq_true c4
   have q3 : (x5_1 < (l0.length : Int)) = True := eq_true hlt
   have hel : (xs.getD (x5_1 : Int).toNat (rd_T110 [] 0)) = rd_T110 xs x5_1 := rfl
   rw [hel] at g0
   have f0 := Aside0.mk (Kd.R_tight rfl g0); have b0 := Aside0.mk g0.1
   obtain ⟨Ae0, ce0, rfl⟩ := Kd.R_slice f0.out
   go_wp2_with (first | ((with_reducible refine gate_callee (f := 44) rfl ?_); refine goesL_ (some 18) rfl rfl Try.func44 (by kernel_rfl) rfl #[.slice Ae0 (rd_T110 xs x5_1).f0.length ce0, .int .i64 x1_1] rfl (by (try simp only [List.map_toArray, List.map_cons, List.map_nil]); first | done | rfl | (simp only [List.length_drop, List.length_take]; rfl)) ?_; (refine (laws_markInt64S.calls k1 (fun k_ => some k_ = (Value.slice Ae0 (rd_T110 xs x5_1).f0.length ce0).ownBlock) _ _ x1_1 ta la w0 _ ?z1 ?z2 Aa.out).mono ?_); (case z1 => exact kR2 HB); (case z2 => (with_reducible repeat (first | apply Kd.R_alloc | apply Kd.R_drewN | apply Kd.R_drew)); exact f0.out); rintro e wq ⟨rfl, hr_, hb_, hk_⟩; refine ⟨_, rfl, ?_⟩; have kq_ := Kept.then_ (Kept.refl wr _) (Kept.then_ (S := fun k_ => some k_ = (Value.slice Ae0 (rd_T110 xs x5_1).f0.length ce0).ownBlock) (by (with_reducible repeat (first | apply Kept.alloc | apply Kept.drewN | apply Kept.drew)); exact Kept.refl _ _) hk_ (fun _ h_ => .inl h_)) (fun _ h_ => .inl h_); have n0_ := Aside0.mk (Kd.H_step hH (fun k_ h1_ h2_ h3_ => kq_.2 k_ h3_ (fun e_ => h2_ (b0.out k_ e_.symm)))); have n2_ := Aside0.mk (Kd.R_tight rfl hr_); have n3_ := Aside0.mk hb_; have n4_ := Aside0.mk (Kept.then_ HK.out kq_ (fun k_ e_ => .inl (hoki k_ (b0.out k_ e_.symm)).1)); have HF := Aside0.mk (Kd.H_back n0_.out (x' := ⟨la⟩) (k110_mkM _ _ _ (⟨la⟩ : S110) (Kd.R_mono n2_.out (fun k_ e_ => b0.out k_ e_.symm))) (fun _ h_ => h_)); clear hr_ hb_ hk_ kq_ HB HK f0 hH n0_ n2_; have HB := n3_; have HK := n4_; clear n3_ n4_))
   go_roundg k1
   case measure => have := HK1.out; omega
   case rel => exact ⟨ta, (wrap64 (x5_1 + 1)), _, (by first | rfl | (simp; done)), (by first | rfl | (simp; done)), H', ⟨by have := HK1.out; omega⟩, ⟨by rw [List.length_set]; exact HL.out⟩, ⟨by (with_reducible repeat (first | apply Kd.S_alloc | apply Kd.S_drewN | apply Kd.S_drew)); exact HF.out⟩, ⟨kR2 HB⟩, ⟨by (with_reducible repeat (first | apply Kept.alloc | apply Kept.drewN | apply Kept.drew)); exact HK.out⟩⟩

/-- An element of which nothing is told. -/
def kO : Kd S110 where
 sz := 1
 E := []
 K := fun _ _ cs => cs.length = 1 ∧ ∀ u ∈ cs, u.oneCell' = true
 M := fun _ _ _ _ cs => cs.length = 1 ∧ ∀ u ∈ cs, u.oneCell' = true
 K_len := fun h => h.1
 K_one := fun h => h.2
 K_below := fun _ h => h
 K_of_M := fun h => h
 M_mono := fun _ h => h
 M_bound := fun h => h
 M_move := fun _ h => h
 M_lower := fun _ h => h
theorem S_forget {w : World} {base : Nat} {ok P : Nat → Prop} {v : Value} {xs ys : List S110} (h : Kd.S k110 110 w base ok v xs) (hp : ∀ k, v.ownBlock = some k → P k) (hl : ys.length = xs.length) : Kd.S kO 110 w base P v ys := by
 obtain ⟨f, h0, inner, ho, hr⟩ := h
 refine ⟨f, hp, inner, by rw [List.length_zipIdx, hl]; rw [List.length_zipIdx] at ho; exact ho, ⟨by have h1 := hr.1; rw [List.length_zipIdx] at h1; rw [List.length_zipIdx, hl]; exact h1, fun j p hj => ?_⟩⟩
 have hlt : j < xs.zipIdx.length := by
  obtain ⟨h1, -⟩ := List.getElem?_eq_some_iff.1 hj
  rw [List.length_zipIdx] at h1 ⊢; omega
 have h2 := hr.2 j _ (List.getElem?_eq_getElem hlt)
 exact ⟨k110.K_len (k110.K_of_M h2), k110.K_one (k110.K_of_M h2)⟩
section
variable {w W W2 : World} {base : Nat} {ok S : Nat → Prop} {v : Value}
theorem R_keptT {α : Type} {d : Kd α} {e : Nat} {xs : List α} (hE : d.E = []) (h : d.R e W base ok v xs) (hk : Kept W W2 S) (hne : ∀ k, some k = v.ownBlock ∧ ok k → ¬ S k) : d.R e W2 base (fun k => ok k ∧ (¬ S k ∧ k < W.heap.size)) v xs :=
 Kd.R_mono (Kd.R_keptB (Kd.R_tight2 hE h) hk hne) (fun k hk => ⟨hk.1.2, hk.2⟩)
theorem S_keptP {P : Nat → Prop} {xs : List S110} (h : Kd.S k110 110 W base ok v xs) (hk : Kept W W2 P) (hne : ∀ k, ok k → ¬ P k) : Kd.S k110 110 W2 base (fun k => ok k ∧ base ≤ k ∧ k < W.heap.size ∧ ∃ q, q ∈ 110 :: k110.E ∧ ∃ cells, W.heap[k]? = some (.cells cells q (0, 0))) v xs :=
 Kd.S_move (Kd.S_bound h) (fun k h1 => hk.2 k h1.2.2.1 (hne k h1.1))
theorem P5_ne {α : Type} {d : Kd α} {e g : Nat} {cs : Array Value} {e' : Nat} (h : ∃ q, q ∈ e :: d.E ∧ ∃ cells, W.heap[g]? = some (.cells cells q (0, 0))) (hb : W.heap[g]? = some (.cells cs e' (0, 0))) (ht : ∀ q, q ∈ e :: d.E → q ≠ e') : False := by
 obtain ⟨q, hq, cells, hc⟩ := h
 rw [hb] at hc
 injection hc with hc
 injection hc with _ h2 _
 exact ht q hq h2.symm
theorem Kept_up {P Q : Nat → Prop} (h : Kept w W P) (hs : ∀ k, P k → Q k) : Kept w W Q := ⟨h.1, fun i hi hn => h.2 i hi (fun hp => hn (hs i hp))⟩
end

/-! ### laws_markSelection: function 45 -/
def laws_markSelection.f (k : Nat) (a0_0 : Int) (l0_1 : List Int) (l0_2 : List Int) (l0_3 : List Int) (l0_4 : List Int) (l0_5 : List (S110)) (a1 : Int) : Option (Int × List Int × List Int × List Int × List Int) := (laws_markInt64S.f k l0_1 a1).bind fun bt657 => ((laws_markInt64S.f k l0_2 bt657.1).bind fun bt659 => ((laws_markInt64S.f k l0_3 bt659.1).bind fun bt661 => ((laws_markInt64S.f k l0_4 bt661.1).bind fun bt663 => ((laws_markPointS.f k l0_5 bt663.1).bind fun bt665 => (some (bt665.1, bt657.2, bt659.2, bt661.2, bt663.2))))))
theorem laws_markSelection.calls (k : Nat) (a0_0 : Int) (P0_1_ : Nat → Prop) (u9000_ : Value) (l0_1 : List Int) (P0_2_ : Nat → Prop) (u9001_ : Value) (l0_2 : List Int) (P0_3_ : Nat → Prop) (u9002_ : Value) (l0_3 : List Int) (P0_4_ : Nat → Prop) (u9003_ : Value) (l0_4 : List Int) (P0_5_ : Nat → Prop) (A0_5 : Option Addr) (c0_5 : Nat) (l0_5 : List (S110)) (a1 : Int) (r1 : Int) (r2 : List Int) (r3 : List Int) (r4 : List Int) (r5 : List Int) (w0 w : World) (hB : Below w0.heap.size w0 w) (ho0_1 : Kd.R (Kd.int .i64) 2 w w0.heap.size P0_1_ u9000_ l0_1) (hp0_1_0_2 : ∀ k_, P0_1_ k_ → ¬ P0_2_ k_) (hp0_1_0_3 : ∀ k_, P0_1_ k_ → ¬ P0_3_ k_) (hp0_1_0_4 : ∀ k_, P0_1_ k_ → ¬ P0_4_ k_) (ho0_2 : Kd.R (Kd.int .i64) 2 w w0.heap.size P0_2_ u9001_ l0_2) (hp0_2_0_1 : ∀ k_, P0_2_ k_ → ¬ P0_1_ k_) (hp0_2_0_3 : ∀ k_, P0_2_ k_ → ¬ P0_3_ k_) (hp0_2_0_4 : ∀ k_, P0_2_ k_ → ¬ P0_4_ k_) (ho0_3 : Kd.R (Kd.int .i64) 2 w w0.heap.size P0_3_ u9002_ l0_3) (hp0_3_0_1 : ∀ k_, P0_3_ k_ → ¬ P0_1_ k_) (hp0_3_0_2 : ∀ k_, P0_3_ k_ → ¬ P0_2_ k_) (hp0_3_0_4 : ∀ k_, P0_3_ k_ → ¬ P0_4_ k_) (ho0_4 : Kd.R (Kd.int .i64) 2 w w0.heap.size P0_4_ u9003_ l0_4) (hp0_4_0_1 : ∀ k_, P0_4_ k_ → ¬ P0_1_ k_) (hp0_4_0_2 : ∀ k_, P0_4_ k_ → ¬ P0_2_ k_) (hp0_4_0_3 : ∀ k_, P0_4_ k_ → ¬ P0_3_ k_) (hr0_5 : ∀ W_, Kept w W_ (fun k_ => P0_1_ k_ ∨ P0_2_ k_ ∨ P0_3_ k_ ∨ P0_4_ k_) → Kd.S k110 110 W_ w0.heap.size P0_5_ (.slice A0_5 l0_5.length c0_5) l0_5) (hc0_5 : l0_5.length ≤ c0_5) (hq5 : ∀ k_, P0_5_ k_ → k_ < w.heap.size ∧ ¬ (P0_1_ k_ ∨ P0_2_ k_ ∨ P0_3_ k_ ∨ P0_4_ k_)) (h : laws_markSelection.f k a0_0 l0_1 l0_2 l0_3 l0_4 l0_5 a1 = some (r1, r2, r3, r4, r5)) :
 Calls Try.prog 45 #[.agg #[.int .i64 a0_0, u9000_, u9001_, u9002_, u9003_, .slice A0_5 l0_5.length c0_5], .int .i64 a1] w fun e w' => e = .returned (.int .i64 r1) ∧ Kd.R (Kd.int .i64) 2 w' w0.heap.size (fun k_ => ((P0_1_ k_ ∨ P0_2_ k_ ∨ P0_3_ k_ ∨ P0_4_ k_) ∨ w.heap.size ≤ k_)) u9000_ r2 ∧ Kd.R (Kd.int .i64) 2 w' w0.heap.size (fun k_ => ((P0_1_ k_ ∨ P0_2_ k_ ∨ P0_3_ k_ ∨ P0_4_ k_) ∨ w.heap.size ≤ k_)) u9001_ r3 ∧ Kd.R (Kd.int .i64) 2 w' w0.heap.size (fun k_ => ((P0_1_ k_ ∨ P0_2_ k_ ∨ P0_3_ k_ ∨ P0_4_ k_) ∨ w.heap.size ≤ k_)) u9002_ r4 ∧ Kd.R (Kd.int .i64) 2 w' w0.heap.size (fun k_ => ((P0_1_ k_ ∨ P0_2_ k_ ∨ P0_3_ k_ ∨ P0_4_ k_) ∨ w.heap.size ≤ k_)) u9003_ r5 ∧ Kd.S kO 110 w' w0.heap.size P0_5_ (.slice A0_5 l0_5.length c0_5) l0_5 ∧ Below w0.heap.size w0 w' ∧ Kept w w' (fun k_ => P0_1_ k_ ∨ P0_2_ k_ ∨ P0_3_ k_ ∨ P0_4_ k_ ∨ P0_5_ k_) := by
 have hu55 := Try.underlying55
 have HO0_1 := yD (show Kd.R (Kd.int .i64) 2 w w0.heap.size (fun k_ => ((P0_1_ k_ ∨ P0_2_ k_ ∨ P0_3_ k_ ∨ P0_4_ k_) ∨ w.heap.size ≤ k_) ∧ oB u9001_ k_ ∧ oB u9002_ k_ ∧ oB u9003_ k_) u9000_ l0_1 from zF ho0_1 (fun k_ hk => ⟨(.inl (.inl hk)), fun e_ => hp0_1_0_2 k_ hk (ho0_2.1 k_ e_.symm), fun e_ => hp0_1_0_3 k_ hk (ho0_3.1 k_ e_.symm), fun e_ => hp0_1_0_4 k_ hk (ho0_4.1 k_ e_.symm)⟩))
 have HO0_2 := yD (show Kd.R (Kd.int .i64) 2 w w0.heap.size (fun k_ => ((P0_1_ k_ ∨ P0_2_ k_ ∨ P0_3_ k_ ∨ P0_4_ k_) ∨ w.heap.size ≤ k_) ∧ oB u9000_ k_ ∧ oB u9002_ k_ ∧ oB u9003_ k_) u9001_ l0_2 from zF ho0_2 (fun k_ hk => ⟨(.inl (.inr (.inl hk))), fun e_ => hp0_2_0_1 k_ hk (ho0_1.1 k_ e_.symm), fun e_ => hp0_2_0_3 k_ hk (ho0_3.1 k_ e_.symm), fun e_ => hp0_2_0_4 k_ hk (ho0_4.1 k_ e_.symm)⟩))
 have HO0_3 := yD (show Kd.R (Kd.int .i64) 2 w w0.heap.size (fun k_ => ((P0_1_ k_ ∨ P0_2_ k_ ∨ P0_3_ k_ ∨ P0_4_ k_) ∨ w.heap.size ≤ k_) ∧ oB u9000_ k_ ∧ oB u9001_ k_ ∧ oB u9003_ k_) u9002_ l0_3 from zF ho0_3 (fun k_ hk => ⟨(.inl (.inr (.inr (.inl hk)))), fun e_ => hp0_3_0_1 k_ hk (ho0_1.1 k_ e_.symm), fun e_ => hp0_3_0_2 k_ hk (ho0_2.1 k_ e_.symm), fun e_ => hp0_3_0_4 k_ hk (ho0_4.1 k_ e_.symm)⟩))
 have HO0_4 := yD (show Kd.R (Kd.int .i64) 2 w w0.heap.size (fun k_ => ((P0_1_ k_ ∨ P0_2_ k_ ∨ P0_3_ k_ ∨ P0_4_ k_) ∨ w.heap.size ≤ k_) ∧ oB u9000_ k_ ∧ oB u9001_ k_ ∧ oB u9002_ k_) u9003_ l0_4 from zF ho0_4 (fun k_ hk => ⟨(.inl (.inr (.inr (.inr hk)))), fun e_ => hp0_4_0_1 k_ hk (ho0_1.1 k_ e_.symm), fun e_ => hp0_4_0_2 k_ hk (ho0_2.1 k_ e_.symm), fun e_ => hp0_4_0_3 k_ hk (ho0_3.1 k_ e_.symm)⟩))
 have hP5_ := yD (Kd.S_R (hr0_5 w (Kept.refl w _))).1; have HR0_5 := yD hr0_5
 have HC0_5 := yD hc0_5
 clear hr0_5 hc0_5
 have HK := yD (Kept.refl w (fun k_ => P0_1_ k_ ∨ P0_2_ k_ ∨ P0_3_ k_ ∨ P0_4_ k_))
 have HW0 := yD hB.size
 have HB := yD hB
 clear hB
 have H : ((laws_markInt64S.f k l0_1 a1).bind fun bt657 => ((laws_markInt64S.f k l0_2 bt657.1).bind fun bt659 => ((laws_markInt64S.f k l0_3 bt659.1).bind fun bt661 => ((laws_markInt64S.f k l0_4 bt661.1).bind fun bt663 => ((laws_markPointS.f k l0_5 bt663.1).bind fun bt665 => (some (bt665.1, bt657.2, bt659.2, bt661.2, bt663.2))))))) = some (r1, r2, r3, r4, r5) := h
 clear h
 replace ⟨⟨t657, t658⟩, A3, H⟩ := sV H
 replace ⟨⟨t659, t660⟩, A4, H⟩ := sV H
 replace ⟨⟨t661, t662⟩, A5, H⟩ := sV H
 replace ⟨⟨t663, t664⟩, A6, H⟩ := sV H
 replace ⟨⟨t665, lp665⟩, A7, H⟩ := sV H
 simp only [Option.some.injEq, Prod.mk.injEq] at H
 obtain ⟨rfl, rfl, rfl, rfl, rfl⟩ := H
 obtain ⟨Ao8, co8, eo8⟩ := Kd.R_slice HO0_1.out
 subst eo8
 obtain ⟨Ao9, co9, eo9⟩ := Kd.R_slice HO0_2.out
 subst eo9
 obtain ⟨Ao10, co10, eo10⟩ := Kd.R_slice HO0_3.out
 subst eo10
 obtain ⟨Ao11, co11, eo11⟩ := Kd.R_slice HO0_4.out
 subst eo11; go_enter Try.func45, Try.ntmps45
 go_wp2_with (first | ((with_reducible refine gate_dst (N := 2) rfl ?_); refine bE (N := 2) (cs := #[.int .i64 a0_0, .slice Ao8 l0_1.length co8, .slice Ao9 l0_2.length co9, .slice Ao10 l0_3.length co10, .slice Ao11 l0_4.length co11, .slice A0_5 l0_5.length c0_5]) (t := 55) ?_; intro gb656 hg w12 hbox hb; replace HO0_1 := yD (zE (kA HO0_1) hb); replace HO0_2 := yD (zE (kA HO0_2) hb); replace HO0_3 := yD (zE (kA HO0_3) hb); replace HO0_4 := yD (zE (kA HO0_4) hb); have BK656 := yD (hbox); have GW656 := yD ((by rw [hg]; exact (by first | exact HK.out.1 | exact (show Kept w _ (fun k_ => P0_1_ k_ ∨ P0_2_ k_ ∨ P0_3_ k_ ∨ P0_4_ k_) from kR3 HK).1) : w.heap.size ≤ gb656)); replace HK := yD (Kept.below (S := (fun k_ => P0_1_ k_ ∨ P0_2_ k_ ∨ P0_3_ k_ ∨ P0_4_ k_)) (kR3 HK) hb); have GW656 := yD ((by rw [hg]; exact (below_size (kB HB)) : w0.heap.size ≤ gb656)); replace HB := zX HB hb; clear hb hbox hg; have := cf6_ BK656.out) | ((with_reducible refine gate_callee (f := 44) rfl ?_); refine gL 8 Try.func44 _ ((laws_markInt64S.calls k (fun k_ => some k_ = (.slice Ao8 l0_1.length co8 : Value).ownBlock) (.slice Ao8 l0_1.length co8) l0_1 a1 t657 t658 w0 _ ?z1 ?z2 A3.out).mono ?_); (case z1 => exact kR0 HB); (case z2 => exact Kd.R_tight rfl HO0_1.out); rintro e w14 ⟨rfl, hy0, hb, hkp⟩; refine ⟨_, rfl, ?_⟩; replace HO0_2 := yD (zF (ok' := fun k_ => ((P0_1_ k_ ∨ P0_2_ k_ ∨ P0_3_ k_ ∨ P0_4_ k_) ∨ w.heap.size ≤ k_) ∧ oB (.slice Ao8 l0_1.length co8) k_ ∧ oB (.slice Ao10 l0_3.length co10) k_ ∧ oB (.slice Ao11 l0_4.length co11) k_) (Kd.R_keptB (HO0_2.out) hkp (fun k_ hk_ hs_ => (hk_.2.1) hs_)) (fun k_ hk_ => ⟨hk_.1.1, hk_.1.2.1, hk_.1.2.2.1, hk_.1.2.2.2⟩)); replace HO0_3 := yD (zF (ok' := fun k_ => ((P0_1_ k_ ∨ P0_2_ k_ ∨ P0_3_ k_ ∨ P0_4_ k_) ∨ w.heap.size ≤ k_) ∧ oB (.slice Ao8 l0_1.length co8) k_ ∧ oB (.slice Ao9 l0_2.length co9) k_ ∧ oB (.slice Ao11 l0_4.length co11) k_) (Kd.R_keptB (HO0_3.out) hkp (fun k_ hk_ hs_ => (hk_.2.1) hs_)) (fun k_ hk_ => ⟨hk_.1.1, hk_.1.2.1, hk_.1.2.2.1, hk_.1.2.2.2⟩)); replace HO0_4 := yD (zF (ok' := fun k_ => ((P0_1_ k_ ∨ P0_2_ k_ ∨ P0_3_ k_ ∨ P0_4_ k_) ∨ w.heap.size ≤ k_) ∧ oB (.slice Ao8 l0_1.length co8) k_ ∧ oB (.slice Ao9 l0_2.length co9) k_ ∧ oB (.slice Ao10 l0_3.length co10) k_) (Kd.R_keptB (HO0_4.out) hkp (fun k_ hk_ hs_ => (hk_.2.1) hs_)) (fun k_ hk_ => ⟨hk_.1.1, hk_.1.2.1, hk_.1.2.2.1, hk_.1.2.2.2⟩)); replace BK656 := yD (blk_kept (kM BK656) hkp (fun hs_ => (fun e_ => (Kd.R_ne HO0_1.out BK656.out (by decide)) e_) hs_)); replace HK := yD (Kept.then_ (S := (fun k_ => P0_1_ k_ ∨ P0_2_ k_ ∨ P0_3_ k_ ∨ P0_4_ k_)) (kR4 HK) hkp (fun k_ hs_ => (fun e_ => (HO0_1.out.1 k_ e_.symm).1) hs_)); replace HO0_1 := yD (Kd.R_reok rfl hy0 (fun k_ e_ => HO0_1.out.1 k_ e_)); replace HB := yD (hb); clear hb hkp hy0; have := cf6_ BK656.out) | ((with_reducible refine gate_callee (f := 44) rfl ?_); refine gL 12 Try.func44 _ ((laws_markInt64S.calls k (fun k_ => some k_ = (.slice Ao9 l0_2.length co9 : Value).ownBlock) (.slice Ao9 l0_2.length co9) l0_2 t657 t659 t660 w0 _ ?z1 ?z2 A4.out).mono ?_); (case z1 => exact kR0 HB); (case z2 => exact Kd.R_tight rfl HO0_2.out); rintro e w16 ⟨rfl, hy0, hb, hkp⟩; refine ⟨_, rfl, ?_⟩; replace HO0_1 := yD (zF (ok' := fun k_ => ((P0_1_ k_ ∨ P0_2_ k_ ∨ P0_3_ k_ ∨ P0_4_ k_) ∨ w.heap.size ≤ k_) ∧ oB (.slice Ao9 l0_2.length co9) k_ ∧ oB (.slice Ao10 l0_3.length co10) k_ ∧ oB (.slice Ao11 l0_4.length co11) k_) (Kd.R_keptB (HO0_1.out) hkp (fun k_ hk_ hs_ => (hk_.2.1) hs_)) (fun k_ hk_ => ⟨hk_.1.1, hk_.1.2.1, hk_.1.2.2.1, hk_.1.2.2.2⟩)); replace HO0_3 := yD (zF (ok' := fun k_ => ((P0_1_ k_ ∨ P0_2_ k_ ∨ P0_3_ k_ ∨ P0_4_ k_) ∨ w.heap.size ≤ k_) ∧ oB (.slice Ao8 l0_1.length co8) k_ ∧ oB (.slice Ao9 l0_2.length co9) k_ ∧ oB (.slice Ao11 l0_4.length co11) k_) (Kd.R_keptB (HO0_3.out) hkp (fun k_ hk_ hs_ => (hk_.2.2.1) hs_)) (fun k_ hk_ => ⟨hk_.1.1, hk_.1.2.1, hk_.1.2.2.1, hk_.1.2.2.2⟩)); replace HO0_4 := yD (zF (ok' := fun k_ => ((P0_1_ k_ ∨ P0_2_ k_ ∨ P0_3_ k_ ∨ P0_4_ k_) ∨ w.heap.size ≤ k_) ∧ oB (.slice Ao8 l0_1.length co8) k_ ∧ oB (.slice Ao9 l0_2.length co9) k_ ∧ oB (.slice Ao10 l0_3.length co10) k_) (Kd.R_keptB (HO0_4.out) hkp (fun k_ hk_ hs_ => (hk_.2.2.1) hs_)) (fun k_ hk_ => ⟨hk_.1.1, hk_.1.2.1, hk_.1.2.2.1, hk_.1.2.2.2⟩)); replace BK656 := yD (blk_kept (kM BK656) hkp (fun hs_ => (fun e_ => (Kd.R_ne HO0_2.out BK656.out (by decide)) e_) hs_)); replace HK := yD (Kept.then_ (S := (fun k_ => P0_1_ k_ ∨ P0_2_ k_ ∨ P0_3_ k_ ∨ P0_4_ k_)) (kR4 HK) hkp (fun k_ hs_ => (fun e_ => (HO0_2.out.1 k_ e_.symm).1) hs_)); replace HO0_2 := yD (Kd.R_reok rfl hy0 (fun k_ e_ => HO0_2.out.1 k_ e_)); replace HB := yD (hb); clear hb hkp hy0; have := cf6_ BK656.out) | ((with_reducible refine gate_callee (f := 44) rfl ?_); refine gL 16 Try.func44 _ ((laws_markInt64S.calls k (fun k_ => some k_ = (.slice Ao10 l0_3.length co10 : Value).ownBlock) (.slice Ao10 l0_3.length co10) l0_3 t659 t661 t662 w0 _ ?z1 ?z2 A5.out).mono ?_); (case z1 => exact kR0 HB); (case z2 => exact Kd.R_tight rfl HO0_3.out); rintro e w18 ⟨rfl, hy0, hb, hkp⟩; refine ⟨_, rfl, ?_⟩; replace HO0_1 := yD (zF (ok' := fun k_ => ((P0_1_ k_ ∨ P0_2_ k_ ∨ P0_3_ k_ ∨ P0_4_ k_) ∨ w.heap.size ≤ k_) ∧ oB (.slice Ao9 l0_2.length co9) k_ ∧ oB (.slice Ao10 l0_3.length co10) k_ ∧ oB (.slice Ao11 l0_4.length co11) k_) (Kd.R_keptB (HO0_1.out) hkp (fun k_ hk_ hs_ => (hk_.2.2.1) hs_)) (fun k_ hk_ => ⟨hk_.1.1, hk_.1.2.1, hk_.1.2.2.1, hk_.1.2.2.2⟩)); replace HO0_2 := yD (zF (ok' := fun k_ => ((P0_1_ k_ ∨ P0_2_ k_ ∨ P0_3_ k_ ∨ P0_4_ k_) ∨ w.heap.size ≤ k_) ∧ oB (.slice Ao8 l0_1.length co8) k_ ∧ oB (.slice Ao10 l0_3.length co10) k_ ∧ oB (.slice Ao11 l0_4.length co11) k_) (Kd.R_keptB (HO0_2.out) hkp (fun k_ hk_ hs_ => (hk_.2.2.1) hs_)) (fun k_ hk_ => ⟨hk_.1.1, hk_.1.2.1, hk_.1.2.2.1, hk_.1.2.2.2⟩)); replace HO0_4 := yD (zF (ok' := fun k_ => ((P0_1_ k_ ∨ P0_2_ k_ ∨ P0_3_ k_ ∨ P0_4_ k_) ∨ w.heap.size ≤ k_) ∧ oB (.slice Ao8 l0_1.length co8) k_ ∧ oB (.slice Ao9 l0_2.length co9) k_ ∧ oB (.slice Ao10 l0_3.length co10) k_) (Kd.R_keptB (HO0_4.out) hkp (fun k_ hk_ hs_ => (hk_.2.2.2) hs_)) (fun k_ hk_ => ⟨hk_.1.1, hk_.1.2.1, hk_.1.2.2.1, hk_.1.2.2.2⟩)); replace BK656 := yD (blk_kept (kM BK656) hkp (fun hs_ => (fun e_ => (Kd.R_ne HO0_3.out BK656.out (by decide)) e_) hs_)); replace HK := yD (Kept.then_ (S := (fun k_ => P0_1_ k_ ∨ P0_2_ k_ ∨ P0_3_ k_ ∨ P0_4_ k_)) (kR4 HK) hkp (fun k_ hs_ => (fun e_ => (HO0_3.out.1 k_ e_.symm).1) hs_)); replace HO0_3 := yD (Kd.R_reok rfl hy0 (fun k_ e_ => HO0_3.out.1 k_ e_)); replace HB := yD (hb); clear hb hkp hy0; have := cf6_ BK656.out) | ((with_reducible refine gate_callee (f := 44) rfl ?_); refine gL 20 Try.func44 _ ((laws_markInt64S.calls k (fun k_ => some k_ = (.slice Ao11 l0_4.length co11 : Value).ownBlock) (.slice Ao11 l0_4.length co11) l0_4 t661 t663 t664 w0 _ ?z1 ?z2 A6.out).mono ?_); (case z1 => exact kR0 HB); (case z2 => exact Kd.R_tight rfl HO0_4.out); rintro e w20 ⟨rfl, hy0, hb, hkp⟩; refine ⟨_, rfl, ?_⟩; replace HO0_1 := yD (zF (ok' := fun k_ => ((P0_1_ k_ ∨ P0_2_ k_ ∨ P0_3_ k_ ∨ P0_4_ k_) ∨ w.heap.size ≤ k_) ∧ oB (.slice Ao9 l0_2.length co9) k_ ∧ oB (.slice Ao10 l0_3.length co10) k_ ∧ oB (.slice Ao11 l0_4.length co11) k_) (Kd.R_keptB (HO0_1.out) hkp (fun k_ hk_ hs_ => (hk_.2.2.2) hs_)) (fun k_ hk_ => ⟨hk_.1.1, hk_.1.2.1, hk_.1.2.2.1, hk_.1.2.2.2⟩)); replace HO0_2 := yD (zF (ok' := fun k_ => ((P0_1_ k_ ∨ P0_2_ k_ ∨ P0_3_ k_ ∨ P0_4_ k_) ∨ w.heap.size ≤ k_) ∧ oB (.slice Ao8 l0_1.length co8) k_ ∧ oB (.slice Ao10 l0_3.length co10) k_ ∧ oB (.slice Ao11 l0_4.length co11) k_) (Kd.R_keptB (HO0_2.out) hkp (fun k_ hk_ hs_ => (hk_.2.2.2) hs_)) (fun k_ hk_ => ⟨hk_.1.1, hk_.1.2.1, hk_.1.2.2.1, hk_.1.2.2.2⟩)); replace HO0_3 := yD (zF (ok' := fun k_ => ((P0_1_ k_ ∨ P0_2_ k_ ∨ P0_3_ k_ ∨ P0_4_ k_) ∨ w.heap.size ≤ k_) ∧ oB (.slice Ao8 l0_1.length co8) k_ ∧ oB (.slice Ao9 l0_2.length co9) k_ ∧ oB (.slice Ao11 l0_4.length co11) k_) (Kd.R_keptB (HO0_3.out) hkp (fun k_ hk_ hs_ => (hk_.2.2.2) hs_)) (fun k_ hk_ => ⟨hk_.1.1, hk_.1.2.1, hk_.1.2.2.1, hk_.1.2.2.2⟩)); replace BK656 := yD (blk_kept (kM BK656) hkp (fun hs_ => (fun e_ => (Kd.R_ne HO0_4.out BK656.out (by decide)) e_) hs_)); replace HK := yD (Kept.then_ (S := (fun k_ => P0_1_ k_ ∨ P0_2_ k_ ∨ P0_3_ k_ ∨ P0_4_ k_)) (kR4 HK) hkp (fun k_ hs_ => (fun e_ => (HO0_4.out.1 k_ e_.symm).1) hs_)); replace HO0_4 := yD (Kd.R_reok rfl hy0 (fun k_ e_ => HO0_4.out.1 k_ e_)); replace HB := yD (hb); clear hb hkp hy0; have := cf6_ BK656.out) | ((with_reducible refine gate_callee (f := 83) rfl ?_); refine gL 24 Try.func83 #[.slice A0_5 l0_5.length c0_5, .int .i64 t663] ?_; (refine (laws_markPointS.calls k P0_5_ (.slice A0_5 l0_5.length c0_5) l0_5 t663 t665 lp665 w0 _ ?z1 ?z2 A7.out).mono ?_); (case z1 => exact kR5 HB); (case z2 => exact HR0_5.out _ (kR4 HK)); rintro e wz ⟨rfl, hs_, hb, hkp, hl_⟩; refine ⟨_, rfl, ?_⟩; have n1_ := yD (Kd.R_mono (R_keptT rfl (by (with_reducible repeat (first | apply Kd.R_alloc | apply Kd.R_drewN | apply Kd.R_drew)); exact HO0_1.out) hkp (fun k_ ho_ h5_ => by have q_ := hq5 k_ h5_; exact ho_.2.1.elim q_.2 (fun h_ => by omega))) (fun _ hk => hk.1)); have n2_ := yD (Kd.R_mono (R_keptT rfl (by (with_reducible repeat (first | apply Kd.R_alloc | apply Kd.R_drewN | apply Kd.R_drew)); exact HO0_2.out) hkp (fun k_ ho_ h5_ => by have q_ := hq5 k_ h5_; exact ho_.2.1.elim q_.2 (fun h_ => by omega))) (fun _ hk => hk.1)); have n3_ := yD (Kd.R_mono (R_keptT rfl (by (with_reducible repeat (first | apply Kd.R_alloc | apply Kd.R_drewN | apply Kd.R_drew)); exact HO0_3.out) hkp (fun k_ ho_ h5_ => by have q_ := hq5 k_ h5_; exact ho_.2.1.elim q_.2 (fun h_ => by omega))) (fun _ hk => hk.1)); have n4_ := yD (Kd.R_mono (R_keptT rfl (by (with_reducible repeat (first | apply Kd.R_alloc | apply Kd.R_drewN | apply Kd.R_drew)); exact HO0_4.out) hkp (fun k_ ho_ h5_ => by have q_ := hq5 k_ h5_; exact ho_.2.1.elim q_.2 (fun h_ => by omega))) (fun _ hk => hk.1)); have n5_ := yD hb; have n6_ := yD (Kept.then_ (Kept_up (P := fun k_ => P0_1_ k_ ∨ P0_2_ k_ ∨ P0_3_ k_ ∨ P0_4_ k_) (Q := fun k_ => P0_1_ k_ ∨ P0_2_ k_ ∨ P0_3_ k_ ∨ P0_4_ k_ ∨ P0_5_ k_) (kR4 HK) (fun k_ h_ => h_.elim .inl (fun h_ => .inr (h_.elim .inl (fun h_ => .inr (h_.elim .inl (fun h_ => .inr (.inl h_)))))))) hkp (fun k_ h_ => .inl (.inr (.inr (.inr (.inr h_)))))); have HS5 := yD (S_forget (P := P0_5_) (ys := l0_5) hs_ hP5_.out hl_.symm); clear HO0_1; clear HO0_2; clear HO0_3; clear HO0_4; clear HB; clear HK; have HO0_1 := n1_; have HO0_2 := n2_; have HO0_3 := n3_; have HO0_4 := n4_; have HB := n5_; have HK := n6_; clear n1_ n2_ n3_ n4_ n5_ n6_ hb hkp hs_ hl_))
 go_ret
 exact ⟨kE, mR HO0_1 (fun _ hk => hk.1), mR HO0_2 (fun _ hk => hk.1), mR HO0_3 (fun _ hk => hk.1), mR HO0_4 (fun _ hk => hk.1), by (with_reducible repeat (first | apply Kd.S_alloc | apply Kd.S_drewN | apply Kd.S_drew)); exact HS5.out, kR0 HB, kR4 HK⟩

/-! ### laws_markBoxS: function 18 -/
def laws_markBoxS.l0 : Nat → List (S42) → Int → Int → Option (Int × List (S42))
 | 0, _, _, _ => none
 | k + 1, x0, x1, x5 => if x5 < (x0.length : Int) then (if 0 ≤ x5 then ((laws_markInt64S.f k ((rd_T42 x0 x5).f0) x1).bind fun ta => ((laws_markInt64S.f k ((rd_T42 x0 x5).f1) ta.1).bind fun tb => (laws_markBoxS.l0 k (x0.set x5.toNat ⟨ta.2, tb.2⟩) tb.1 (wrap64 (x5 + 1))))) else none) else some (x1, x0)
def laws_markBoxS.f (k : Nat) (l0 : List (S42)) (a1 : Int) : Option (Int × List (S42)) := laws_markBoxS.l0 k l0 a1 0
theorem laws_markBoxS.calls (k : Nat) (P0_ : Nat → Prop) (u9000_ : Value) (l0 : List (S42)) (a1 : Int) (r1 : Int) (r2 : List (S42)) (w0 w : World) (hB : Below w0.heap.size w0 w) (ho0 : Kd.S k42 42 w w0.heap.size P0_ u9000_ l0) (h : laws_markBoxS.f k l0 a1 = some (r1, r2)) :
 Calls Try.prog 18 #[u9000_, .int .i64 a1] w fun e w' => e = .returned (.int .i64 r1) ∧ Kd.S k42 42 w' w0.heap.size P0_ u9000_ r2 ∧ Below w0.heap.size w0 w' ∧ Kept w w' (fun k_ => P0_ k_) := by
 obtain ⟨A0, c0, rfl⟩ := Kd.S_slice ho0
 have HO_ := Aside0.mk ho0; have HB_ := Aside0.mk hB; have H' := Aside0.mk (show laws_markBoxS.l0 k l0 a1 0 = some (r1, r2) from h)
 clear ho0 hB h
 go_enter Try.func18, Try.ntmps18
 go_wp2
 go_loopg [1, 5] k (fun kq v1 v5 w' => ∃ (x1_1 : Int) (x5_1 : Int) (xs : List (S42)), v1 = .int .i64 x1_1 ∧ v5 = .int .i64 x5_1 ∧ Aside0 (laws_markBoxS.l0 kq xs x1_1 x5_1 = some (r1, r2)) ∧ Aside0 (kq ≤ k) ∧ Aside0 (xs.length = l0.length) ∧ Aside0 (Kd.S k42 42 w' w0.heap.size P0_ (.slice A0 l0.length c0) xs) ∧ Aside0 (Below w0.heap.size w0 w') ∧ Aside0 (Kept w w' (fun k_ => P0_ k_)))
 case atStart => exact ⟨a1, 0, l0, rfl, rfl, H', ⟨Nat.le_refl _⟩, ⟨rfl⟩, ⟨by (with_reducible repeat (first | apply Kd.S_alloc | apply Kd.S_drewN | apply Kd.S_drew)); exact HO_.out⟩, ⟨kR2 HB_⟩, ⟨by (with_reducible repeat (first | apply Kept.alloc | apply Kept.drewN | apply Kept.drew)); exact Kept.refl _ _⟩⟩
 case round =>
  clear H' HO_ HB_
  obtain ⟨x1_1, x5_1, xs, rfl, rfl, HA, HK1, HL, HO, HB, HK⟩ := hrel
  cases gk with
  | zero => exact absurd HA.out (by simp [laws_markBoxS.l0])
  | succ k1 =>
   have H := HA.out
   clear HA
   simp only [laws_markBoxS.l0] at H
   replace H := sC H; rcases H with ⟨c3, H⟩ | ⟨c3, H⟩
   · have c3b0 : decide (x5_1 < (l0.length : Int)) = false := decide_eq_false (by rw [← HL.out]; exact c3)
     obtain ⟨rfl, rfl⟩ := Prod.mk.inj (Option.some.inj H)
     go_wp2
     go_ret
     exact ⟨by first | rfl | (simp; done), by (with_reducible repeat (first | apply Kd.S_alloc | apply Kd.S_drewN | apply Kd.S_drew)); exact HO.out, kR2 HB, by (with_reducible repeat (first | apply Kept.alloc | apply Kept.drewN | apply Kept.drew)); exact HK.out⟩
   have c3b0 : decide (x5_1 < (l0.length : Int)) = true := decide_eq_true (by rw [← HL.out]; exact c3)
   replace ⟨c4, H⟩ := sD H
   have c4b0 : decide (0 ≤ x5_1) = true := decide_eq_true c4
   obtain ⟨⟨ta, la⟩, Aa0, H⟩ := Option.bind_eq_some_iff.mp H
   have Aa := Aside0.mk Aa0; clear Aa0
   obtain ⟨⟨tb, lb⟩, Ab0, H⟩ := Option.bind_eq_some_iff.mp H
   have Ab := Aside0.mk Ab0; clear Ab0
   have H' := Aside0.mk H
   clear H
   have hlt : (x5_1 : Int) < (l0.length : Int) := by rw [← HL.out]; exact c3
   obtain ⟨ad, rfl⟩ : ∃ ad, A0 = some ad := by
    obtain ⟨_, _, h2⟩ := (Kd.S_reads' HO.out).2.2
    obtain ⟨ad, he, _⟩ := h2 (by omega)
    exact ⟨ad, he⟩
   obtain ⟨go, rfl⟩ := Kd.R_head (Kd.S_R HO.out)
   obtain ⟨oki, ce, hcl, hM, hcc, hfr, hoki, hH⟩ := Kd.S_elem HO.out (rd_T42 [] 0) (x5_1 : Int) c4 hlt
   obtain ⟨v0, v1, rfl, g0, g1⟩ := k42_openM hM
   have hne := k42_ne hM
   have hx0 : wr.cell? ⟨go, (x5_1 : Int).toNat * 2, none⟩ = some (v0) := hcc 0 _ rfl
   have hx1 : wr.cell? ⟨go, (x5_1 : Int).toNat * 2 + 1, none⟩ = some (v1) := hcc 1 _ rfl
   have p3 : (0 ≤ x5_1) = True := eq_true c4
   have q3 : (x5_1 < (l0.length : Int)) = True := eq_true hlt
   have hel : (xs.getD (x5_1 : Int).toNat (rd_T42 [] 0)) = rd_T42 xs x5_1 := rfl
   rw [hel] at g0 g1
   have f0 := Aside0.mk (Kd.R_tight rfl g0); have b0 := Aside0.mk g0.1
   have f1 := Aside0.mk (Kd.R_tight rfl g1); have b1 := Aside0.mk g1.1
   obtain ⟨Ae0, ce0, rfl⟩ := Kd.R_slice f0.out
   obtain ⟨Ae1, ce1, rfl⟩ := Kd.R_slice f1.out
   go_wp2_with (first | ((with_reducible refine gate_callee (f := 44) rfl ?_); refine goesL_ (some 18) rfl rfl Try.func44 (by kernel_rfl) rfl #[.slice Ae0 (rd_T42 xs x5_1).f0.length ce0, .int .i64 x1_1] rfl (by (try simp only [List.map_toArray, List.map_cons, List.map_nil]); first | done | rfl | (simp only [List.length_drop, List.length_take]; rfl)) ?_; (refine (laws_markInt64S.calls k1 (fun k_ => some k_ = (Value.slice Ae0 (rd_T42 xs x5_1).f0.length ce0).ownBlock) _ _ x1_1 ta la w0 _ ?z1 ?z2 Aa.out).mono ?_); (case z1 => exact kR2 HB); (case z2 => (with_reducible repeat (first | apply Kd.R_alloc | apply Kd.R_drewN | apply Kd.R_drew)); exact f0.out); rintro e wq ⟨rfl, hr_, hb_, hk_⟩; refine ⟨_, rfl, ?_⟩; have kq_ := Kept.then_ (Kept.refl wr _) (Kept.then_ (S := fun k_ => some k_ = (Value.slice Ae0 (rd_T42 xs x5_1).f0.length ce0).ownBlock) (by (with_reducible repeat (first | apply Kept.alloc | apply Kept.drewN | apply Kept.drew)); exact Kept.refl _ _) hk_ (fun _ h_ => .inl h_)) (fun _ h_ => .inl h_); have n0_ := Aside0.mk (Kd.H_step hH (fun k_ h1_ h2_ h3_ => kq_.2 k_ h3_ (fun e_ => h2_ (b0.out k_ e_.symm)))); have n1_ := Aside0.mk (Kd.R_move f1.out (fun k_ h1_ => kq_.2 k_ (Kd.R_lt f1.out k_ h1_.symm) (fun e_ => hne k_ e_.symm h1_.symm))); have n2_ := Aside0.mk (Kd.R_tight rfl hr_); have hx1q : wq.cell? ⟨go, (x5_1 : Int).toNat * 2 + 1, none⟩ = some (.slice Ae1 (rd_T42 xs x5_1).f1.length ce1) := (by obtain ⟨_, _, _, _, _, h5_, _⟩ := Kd.H_raw n0_.out c4 hlt; exact h5_ 1 _ rfl); have n3_ := Aside0.mk hb_; have n4_ := Aside0.mk (Kept.then_ HK.out kq_ (fun k_ e_ => .inl (hoki k_ (b0.out k_ e_.symm)).1)); clear hr_ hb_ hk_ kq_ HB HK f1 f0 hH; have hH := n0_.out; have f1 := n1_; have f0 := n2_; have HB := n3_; have HK := n4_; clear n0_ n1_ n2_ n3_ n4_) | ((with_reducible refine gate_callee (f := 44) rfl ?_); refine goesL_ (some 25) rfl rfl Try.func44 (by kernel_rfl) rfl #[.slice Ae1 (rd_T42 xs x5_1).f1.length ce1, .int .i64 ta] rfl (by (try simp only [List.map_toArray, List.map_cons, List.map_nil]); first | done | rfl | (simp only [List.length_drop, List.length_take]; rfl)) ?_; (refine (laws_markInt64S.calls k1 (fun k_ => some k_ = (Value.slice Ae1 (rd_T42 xs x5_1).f1.length ce1).ownBlock) _ _ ta tb lb w0 _ ?z1 ?z2 Ab.out).mono ?_); (case z1 => exact kR2 HB); (case z2 => (with_reducible repeat (first | apply Kd.R_alloc | apply Kd.R_drewN | apply Kd.R_drew)); exact f1.out); rintro e wq ⟨rfl, hr_, hb_, hk_⟩; refine ⟨_, rfl, ?_⟩; have kq_ := (show Kept _ _ (fun k_ => some k_ = (Value.slice Ae1 (rd_T42 xs x5_1).f1.length ce1).ownBlock) from hk_); have n0_ := Aside0.mk (Kd.H_step hH (fun k_ h1_ h2_ h3_ => (Kept.then_ (by (with_reducible repeat (first | apply Kept.alloc | apply Kept.drewN | apply Kept.drew)); exact Kept.refl _ _) kq_ (fun _ h_ => .inl h_)).2 k_ h3_ (fun e_ => h2_ (b1.out k_ e_.symm)))); have n1_ := Aside0.mk (Kd.R_move f0.out (fun k_ h1_ => (Kept.then_ (by (with_reducible repeat (first | apply Kept.alloc | apply Kept.drewN | apply Kept.drew)); exact Kept.refl _ _) kq_ (fun _ h_ => .inl h_)).2 k_ (Kd.R_lt f0.out k_ h1_.symm) (fun e_ => hne k_ h1_.symm e_.symm))); have n2_ := Aside0.mk (Kd.R_tight rfl hr_); have n3_ := Aside0.mk hb_; have n4_ := Aside0.mk (Kept.then_ HK.out (Kept.then_ (by (with_reducible repeat (first | apply Kept.alloc | apply Kept.drewN | apply Kept.drew)); exact Kept.refl _ _) kq_ (fun _ h_ => .inl h_)) (fun k_ e_ => .inl (hoki k_ (b1.out k_ e_.symm)).1)); have HF := Aside0.mk (Kd.H_back n0_.out (x' := ⟨la, lb⟩) (k42_mkM _ _ _ (⟨la, lb⟩ : S42) (Kd.R_mono n1_.out (fun k_ e_ => b0.out k_ e_.symm)) (Kd.R_mono n2_.out (fun k_ e_ => b1.out k_ e_.symm)) hne) (fun _ h_ => h_)); clear hr_ hb_ hk_ kq_ HB HK f1 f0 hH n0_ n1_ n2_; have HB := n3_; have HK := n4_; clear n3_ n4_))
   go_roundg k1
   case measure => have := HK1.out; omega
   case rel => exact ⟨tb, (wrap64 (x5_1 + 1)), _, (by first | rfl | (simp; done)), (by first | rfl | (simp; done)), H', ⟨by have := HK1.out; omega⟩, ⟨by rw [List.length_set]; exact HL.out⟩, ⟨by (with_reducible repeat (first | apply Kd.S_alloc | apply Kd.S_drewN | apply Kd.S_drew)); exact HF.out⟩, ⟨kR2 HB⟩, ⟨by (with_reducible repeat (first | apply Kept.alloc | apply Kept.drewN | apply Kept.drew)); exact HK.out⟩⟩

/-! ### laws_heldInt64S: function 46 -/
def laws_heldInt64S.l0 : Nat → List Int → Int → Int → Option (Int)
 | 0, _, _, _ => none
 | k + 1, x0, x1, x5 => if x5 < (x0.length : Int) then (if 0 ≤ x5 then (if (rd x0 x5) = x1 then (laws_heldInt64S.l0 k x0 (wrap64 (x1 + 1)) (wrap64 (x5 + 1))) else (some (-1))) else (none)) else (some x1)
def laws_heldInt64S.f (k : Nat) (l0 : List Int) (a1 : Int) : Option (Int) := laws_heldInt64S.l0 k l0 a1 0
theorem laws_heldInt64S.calls (k : Nat) (A0 : Option Addr) (c0 : Nat) (l0 : List Int) (a1 : Int) (r : Int) (w : World) (C0 : Cm (Kd.int .i64) w A0 c0 l0) (h : laws_heldInt64S.f k l0 a1 = some r) :
 Calls Try.prog 46 #[.slice A0 l0.length c0, .int .i64 a1] w fun e w' => e = .returned (.int .i64 r) ∧ Drawn0 w w' := by
 have H : (laws_heldInt64S.l0 k l0 a1 0) = some r := h
 clear h
 have H' := yD H
 clear H; go_enter Try.func46, Try.ntmps46
 go_wp2
 go_loopg [1, 5] k (fun kq v1 v5 w' => ∃ (x1_1 : Int) (x5_1 : Int), v1 = .int .i64 x1_1 ∧ v5 = .int .i64 x5_1 ∧ Aside0 (laws_heldInt64S.l0 kq l0 x1_1 x5_1 = some r) ∧ Aside0 (kq ≤ k) ∧ Drawn0 w w')
 case atStart => exact ⟨(a1), (0), kF, kF, H', ⟨Nat.le_refl _⟩, by repeat (first | exact Drawn0.refl _ | apply Drawn0.step)⟩
 case round =>
  clear H'
  obtain ⟨x1_1, x5_1, rfl, rfl, HA, HK1, ⟨m1, rfl⟩⟩ := hrel
  cases gk with
  | zero => exact absurd HA.out (by simp [laws_heldInt64S.l0])
  | succ k1 =>
   have H := HA.out; clear HA
   simp only [laws_heldInt64S.l0] at H
   replace H := sG H; rcases H with ⟨c3b0, H⟩ | ⟨c3b0, H⟩
   · obtain rfl := sJ H
     go_wp2
     go_ret
     exact ⟨by first | rfl | (simp; done) | (simp [*]; done), by repeat (first | exact Drawn0.refl _ | apply Drawn0.step)⟩
   replace ⟨c4b0, H⟩ := sE H
   replace H := sP H; rcases H with ⟨c5, c5b0, c5b1, H⟩ | ⟨-, c5b0, c5b1, H⟩
   ·
    obtain rfl := sJ H
    obtain ⟨p666, q666, ad666, e666, hx666_0⟩ := sI (Kd.at_int C0.r x5_1)
    cases e666
    go_wp2
    go_ret
    exact ⟨by first | rfl | (simp; done) | (simp [*]; done), by repeat (first | exact Drawn0.refl _ | apply Drawn0.step)⟩
   have H' := yD H
   clear H
   obtain ⟨p666, q666, ad666, e666, hx666_0⟩ := sI (Kd.at_int C0.r x5_1)
   cases e666
   go_wp2
   go_roundg k1
   case measure => have := HK1.out; omega
   case rel => exact ⟨(wrap64 (x1_1 + 1)), (wrap64 (x5_1 + 1)), kF, kF, H', ⟨by have := HK1.out; omega⟩, by repeat (first | exact Drawn0.refl _ | apply Drawn0.step)⟩

/-! ### laws_heldBoxS: function 19 -/
def laws_heldBoxS.l0 : Nat → List (S42) → Int → Int → Option (Int)
 | 0, _, _, _ => none
 | k + 1, x0, x1, x5 => if x5 < (x0.length : Int) then (if 0 ≤ x5 then ((laws_heldInt64S.f k ((rd_T42 x0 x5).f0) x1).bind fun t668 => (if t668 < 0 then (some (-1)) else ((laws_heldInt64S.f k ((rd_T42 x0 x5).f1) t668).bind fun t670 => (if t670 < 0 then (some (-1)) else (laws_heldBoxS.l0 k x0 t670 (wrap64 (x5 + 1))))))) else (none)) else (some x1)
def laws_heldBoxS.f (k : Nat) (l0 : List (S42)) (a1 : Int) : Option (Int) := laws_heldBoxS.l0 k l0 a1 0
theorem laws_heldBoxS.calls (k : Nat) (A0 : Option Addr) (c0 : Nat) (l0 : List (S42)) (a1 : Int) (r : Int) (w : World) (C0 : Cm k42 w A0 c0 l0) (h : laws_heldBoxS.f k l0 a1 = some r) :
 Calls Try.prog 19 #[.slice A0 l0.length c0, .int .i64 a1] w fun e w' => e = .returned (.int .i64 r) ∧ Drawn0 w w' := by
 have H : (laws_heldBoxS.l0 k l0 a1 0) = some r := h
 clear h
 have H' := yD H
 clear H; go_enter Try.func19, Try.ntmps19
 go_wp2
 go_loopg [1, 5] k (fun kq v1 v5 w' => ∃ (x1_1 : Int) (x5_1 : Int), v1 = .int .i64 x1_1 ∧ v5 = .int .i64 x5_1 ∧ Aside0 (laws_heldBoxS.l0 kq l0 x1_1 x5_1 = some r) ∧ Aside0 (kq ≤ k) ∧ Drawn0 w w')
 case atStart => exact ⟨(a1), (0), kF, kF, H', ⟨Nat.le_refl _⟩, by repeat (first | exact Drawn0.refl _ | apply Drawn0.step)⟩
 case round =>
  clear H'
  obtain ⟨x1_1, x5_1, rfl, rfl, HA, HK1, ⟨m1, rfl⟩⟩ := hrel
  cases gk with
  | zero => exact absurd HA.out (by simp [laws_heldBoxS.l0])
  | succ k1 =>
   have H := HA.out; clear HA
   simp only [laws_heldBoxS.l0] at H
   replace H := sG H; rcases H with ⟨c3b0, H⟩ | ⟨c3b0, H⟩
   · obtain rfl := sJ H
     go_wp2
     go_ret
     exact ⟨by first | rfl | (simp; done) | (simp [*]; done), by repeat (first | exact Drawn0.refl _ | apply Drawn0.step)⟩
   replace ⟨c4b0, H⟩ := sE H
   replace ⟨t668, A5, H⟩ := sV H
   replace H := sF H; rcases H with ⟨c6b0, H⟩ | ⟨c6b0, H⟩
   ·
    obtain rfl := sJ H
    obtain ⟨p667, q667, ad667, A667_0, c667_0, A667_1, c667_1, e667, hx667_0, hx667_1, HC667_0, HR667_0, HC667_1, HR667_1⟩ := sI (at_T42 C0.r x5_1)
    cases e667
    go_wp2_with (first | ((with_reducible refine gate_callee (f := 46) rfl ?_); refine gL 18 Try.func46 _ ((laws_heldInt64S.calls k1 _ _ ((rd_T42 l0 x5_1).f0) x1_1 t668 _ ?z1 A5.out).mono ?_); (case z1 => exact ⟨(by repeat (first | exact HR667_0.out | (with_reducible first | refine yV ?_ _ | refine yW ?_ _ | refine yX ?_))), HC667_0.out⟩); rintro e w' ⟨rfl, ⟨nd, rfl⟩⟩; refine ⟨_, rfl, ?_⟩))
    go_ret
    exact ⟨by first | rfl | (simp; done) | (simp [*]; done), by repeat (first | exact Drawn0.refl _ | apply Drawn0.step)⟩
   replace ⟨t670, A7, H⟩ := sV H
   replace H := sF H; rcases H with ⟨c8b0, H⟩ | ⟨c8b0, H⟩
   ·
    obtain rfl := sJ H
    obtain ⟨p667, q667, ad667, A667_0, c667_0, A667_1, c667_1, e667, hx667_0, hx667_1, HC667_0, HR667_0, HC667_1, HR667_1⟩ := sI (at_T42 C0.r x5_1)
    cases e667
    go_wp2_with (first | ((with_reducible refine gate_callee (f := 46) rfl ?_); refine gL 18 Try.func46 _ ((laws_heldInt64S.calls k1 _ _ ((rd_T42 l0 x5_1).f0) x1_1 t668 _ ?z1 A5.out).mono ?_); (case z1 => exact ⟨(by repeat (first | exact HR667_0.out | (with_reducible first | refine yV ?_ _ | refine yW ?_ _ | refine yX ?_))), HC667_0.out⟩); rintro e w' ⟨rfl, ⟨nd, rfl⟩⟩; refine ⟨_, rfl, ?_⟩; have p669 : 0 ≤ (x5_1 : Int) := zP (by assumption); have q669 : x5_1 < (l0.length : Int) := zP (by assumption); obtain ⟨ad669, A669_0, c669_0, A669_1, c669_1, e669, hx669_0, hx669_1, HC669_0, HR669_0, HC669_1, HR669_1⟩ := at_T42 C0.r x5_1 p669 q669; obtain rfl : ad667 = ad669 := (by injection e669); replace p669 := eq_true p669; replace q669 := eq_true q669; have ea_ := Option.some.inj (hx667_0.symm.trans hx669_0); injection ea_ with ea_ en_ ec_; subst ea_; subst ec_; clear en_; have ea_ := Option.some.inj (hx667_1.symm.trans hx669_1); injection ea_ with ea_ en_ ec_; subst ea_; subst ec_; clear en_) | ((with_reducible refine gate_callee (f := 46) rfl ?_); refine gL 27 Try.func46 _ ((laws_heldInt64S.calls k1 _ _ ((rd_T42 l0 x5_1).f1) t668 t670 _ ?z1 A7.out).mono ?_); (case z1 => exact ⟨(by repeat (first | exact HR669_1.out | (with_reducible first | refine yV ?_ _ | refine yW ?_ _ | refine yX ?_))), HC669_1.out⟩); rintro e w' ⟨rfl, ⟨nd, rfl⟩⟩; refine ⟨_, rfl, ?_⟩))
    go_ret
    exact ⟨by first | rfl | (simp; done) | (simp [*]; done), by repeat (first | exact Drawn0.refl _ | apply Drawn0.step)⟩
   have H' := yD H
   clear H
   obtain ⟨p667, q667, ad667, A667_0, c667_0, A667_1, c667_1, e667, hx667_0, hx667_1, HC667_0, HR667_0, HC667_1, HR667_1⟩ := sI (at_T42 C0.r x5_1)
   cases e667
   go_wp2_with (first | ((with_reducible refine gate_callee (f := 46) rfl ?_); refine gL 18 Try.func46 _ ((laws_heldInt64S.calls k1 _ _ ((rd_T42 l0 x5_1).f0) x1_1 t668 _ ?z1 A5.out).mono ?_); (case z1 => exact ⟨(by repeat (first | exact HR667_0.out | (with_reducible first | refine yV ?_ _ | refine yW ?_ _ | refine yX ?_))), HC667_0.out⟩); rintro e w' ⟨rfl, ⟨nd, rfl⟩⟩; refine ⟨_, rfl, ?_⟩; have p669 : 0 ≤ (x5_1 : Int) := zP (by assumption); have q669 : x5_1 < (l0.length : Int) := zP (by assumption); obtain ⟨ad669, A669_0, c669_0, A669_1, c669_1, e669, hx669_0, hx669_1, HC669_0, HR669_0, HC669_1, HR669_1⟩ := at_T42 C0.r x5_1 p669 q669; obtain rfl : ad667 = ad669 := (by injection e669); replace p669 := eq_true p669; replace q669 := eq_true q669; have ea_ := Option.some.inj (hx667_0.symm.trans hx669_0); injection ea_ with ea_ en_ ec_; subst ea_; subst ec_; clear en_; have ea_ := Option.some.inj (hx667_1.symm.trans hx669_1); injection ea_ with ea_ en_ ec_; subst ea_; subst ec_; clear en_) | ((with_reducible refine gate_callee (f := 46) rfl ?_); refine gL 27 Try.func46 _ ((laws_heldInt64S.calls k1 _ _ ((rd_T42 l0 x5_1).f1) t668 t670 _ ?z1 A7.out).mono ?_); (case z1 => exact ⟨(by repeat (first | exact HR669_1.out | (with_reducible first | refine yV ?_ _ | refine yW ?_ _ | refine yX ?_))), HC669_1.out⟩); rintro e w' ⟨rfl, ⟨nd, rfl⟩⟩; refine ⟨_, rfl, ?_⟩))
   go_roundg k1
   case measure => have := HK1.out; omega
   case rel => exact ⟨(t670), (wrap64 (x5_1 + 1)), kF, kF, H', ⟨by have := HK1.out; omega⟩, by repeat (first | exact Drawn0.refl _ | apply Drawn0.step)⟩
end Go.Proofs.Ytdiaebjbiddefaa.PFnExactBoxesOf
