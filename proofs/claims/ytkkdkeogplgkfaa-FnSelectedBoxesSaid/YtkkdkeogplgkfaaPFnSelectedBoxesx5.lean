/- Each function here comes to its plain form. It holds without a condition. -/
import Derived.Test.YtkkdkeogplgkfaaPFnSelectedBoxesx0
import Derived.Test.YtkkdkeogplgkfaaPFnSelectedBoxesx3
import Derived.Test.YtkkdkeogplgkfaaPFnSelectedBoxesx4
namespace Go.Proofs.Ytkkdkeogplgkfaa.PFnSelectedBoxes
open Go.RowKit Go.Proofs.YtkkdkeogplgkfaaW.PrintWords Go.Proofs.YtkkdkeogplgkfaaW.PrintLast Go.Proofs.YtkkdkeogplgkfaaW.PrintMore
attribute [local go_sem] max2_int min2_int max_two min_two max_three min_three max_four min_four
set_option linter.unusedVariables false
set_option linter.unusedSimpArgs false
set_option maxHeartbeats 8000000
set_option maxRecDepth 100000
section
variable {P : Program} {ops : Array Oper} {rest : List Oper} {o : Oper} {a : Act} {Q : Exit → Act → World → Prop} {α : Type}
open Go.Proofs.YtkkdkeogplgkfaaW.PrintWords.Kd in
/-- append(v, ys...): rows that are new and apart, ys' blocks (okp) none of v's. -/
theorem S_append_rows (d : Kd α) {w0 W : World} (base : Nat) (hgd : o.guard = none) (s x : Operand) (t e : TypeId) (z : Value) (bytes : Nat)
 (ho : o.op = .call { callee := .builtin .append, args := #[s, x], argTypes := #[t, t] })
 (ht : P.underlying t = some (.slice e)) (hinfo : (P.info? e).map (fun i => (i.zero, i.size, i.bytes)) = some (some z, d.sz, bytes)) (hz : z.cells.size = d.sz) (hs0 : 0 < d.sz) (hb0 : 0 < bytes)
 (v : Value) (xs ys : List α) (A : Option Addr) (m c : Nat) (ok okp : Nat → Prop) (hs : a.eval s = v) (hx : a.eval x = .slice A m c)
 (HO : Kd.S d e W base (fun k => ok k ∧ ¬ okp k) v xs) (HR : Kd.S d e W base okp (.slice A m c) ys) (hokp : ∀ k, okp k → ok k ∧ some k ≠ v.ownBlock) (hfresh : ∀ k, W.heap.size ≤ k → ok k)
 (HB : Below base w0 W) (hbase : base ≤ W.heap.size) (hl : (xs.length + m) * bytes ≤ 140737488355328)
 (h : ∀ v1 w1, Kd.S d e w1 base ok v1 (xs ++ ys) → Below base w0 w1 → W.grownBy w1 v.ownBlock → (v1.ownBlock = v.ownBlock ∨ ∃ b, v1.ownBlock = some b ∧ W.heap.size ≤ b) → wpList P ops Q rest (a.put o.dst v1) w1) :
 wpList P ops Q (o :: rest) a W := by
 obtain ⟨f1, h1⟩ := HO
 obtain ⟨f2, h2⟩ := HR
 obtain ⟨A', c', he, -, hr⟩ := OwnRow.reads h2.2
 injection he with e1 e2 _
 subst e1
 rw [List.length_zipIdx] at e2 hr
 subst e2
 have g1 : (tag (fun k => open Classical in if okp k then xs.length + f2 k else f1 k) d).R e W base (fun k => ok k ∧ ¬ okp k) v xs.zipIdx := R_tag h1 (fun k hk _ => if_neg hk.2)
 have g2 : ReadsRow ((tag (fun k => open Classical in if okp k then xs.length + f2 k else f1 k) d).M W base okp) d.sz W A ys.length (ys.zipIdx xs.length) := by
  refine ⟨by rw [List.length_zipIdx], hr.2.1, fun hp => ?_⟩
  obtain ⟨ad, e, hc⟩ := hr.2.2 hp
  refine ⟨ad, e, fun j p hj => ?_⟩
  rw [List.getElem?_zipIdx] at hj
  obtain ⟨y, hy, rfl⟩ := Option.map_eq_some_iff.1 hj
  obtain ⟨cc, hs, hM, hcell⟩ := hc j (y, j) (zip_at hy)
  exact ⟨cc, hs, d.M_mono (fun k hk => ⟨hk.1.1, (if_pos hk.1.1).trans (by rw [hk.2])⟩) hM, hcell⟩
 refine R_append_rows (tag _ d) base hgd s x t e z bytes ho ht hinfo hz hs0 hb0 v xs.zipIdx (ys.zipIdx xs.length) A _ c ok okp hs hx (R_mono g1 (fun _ hk => hk.1)) g2 (fun _ _ h => h) hokp hfresh HB hbase (by rw [List.length_zipIdx]; exact hl) ?_
 intro v1 w1 hr1 hb hg hat
 rw [show xs.zipIdx ++ ys.zipIdx xs.length = (xs ++ ys).zipIdx by rw [List.zipIdx_append]; simp] at hr1
 exact h v1 w1 ⟨_, hr1⟩ hb hg hat
/-- What is made by a call is new: it is apart from what was there. -/
theorem S_pair {α β : Type} {d : Kd α} {d' : Kd β} {e e' base : Nat} {W w1 : World} {okx oky : Nat → Prop} {u v : Value} {xs : List α} {ys : List β} (hx : Kd.S d e W base okx u xs) (hb : Below W.heap.size W w1) (hy : Kd.S d' e' w1 W.heap.size oky v ys) (hle : base ≤ W.heap.size) :
 ∃ N, Kd.S d e w1 base (fun k => okx k ∧ k < N) u xs ∧ Kd.S d' e' w1 base (fun k => oky k ∧ N ≤ k) v ys :=
 ⟨W.heap.size, Kd.S_old hx hb, Kd.S_lower (Kd.S_mono (Kd.S_bound hy) (fun k hk => ⟨hk.1, hk.2.1⟩)) hle⟩
end
mutual
def aM.j0 : Nat → Int → List (S33) → List (S33) → Bool → Option ((List (S33)))
 | 0, _, _, _, _ => none
 | k + 1, x0, x1, x2, x33 => if x33 = true then (some ([] : List (S33))) else (aM.l0 k x0 x1 x2 ([] : List (S33)) ([] : List (S33)) 0 0)
def aM.l0 : Nat → Int → List (S33) → List (S33) → List (S33) → List (S33) → Int → Int → Option ((List (S33)))
 | 0, _, _, _, _, _, _, _ => none
 | k + 1, x0, x1, x2, x9, x10, x11, x34 => if x34 < 41 then (if x34 < 40 then ((bW.f k x1 x34).bind fun t446 => ((bW.f k x2 x34).bind fun t449 => ((aM.f k (wrap64 (x0 - 1)) t446 t449).bind fun t452 => (aM.j2 k x0 x1 x2 x9 x10 x11 x34 t452 x34)))) else (aM.j2 k x0 x1 x2 x9 x10 x11 x34 ([] : List (S33)) x34)) else (some x9)
def aM.j2 : Nat → Int → List (S33) → List (S33) → List (S33) → List (S33) → Int → Int → List (S33) → Int → Option ((List (S33)))
 | 0, _, _, _, _, _, _, _, _, _ => none
 | k + 1, x0, x1, x2, x9, x10, x11, x12, x13, x34 => (impl_SameBoxes.f k x13 x10).bind fun t455 => (if t455 = true then (aM.l0 k x0 x1 x2 x9 x10 x11 (wrap64 (x34 + 1))) else ((impl_prefixed.f k x10 x11 x12).bind fun t456 => (if x9.length + t456.length < 2932031007402 then (aM.l0 k x0 x1 x2 (x9 ++ t456) x13 x12 (wrap64 (x34 + 1))) else (none))))
def aM.f : Nat → Int → List (S33) → List (S33) → Option ((List (S33)))
 | 0, _, _, _ => none
 | k + 1, a0, l1, l2 => if a0 = 0 then ((impl_either.f (decide ((l1.length : Int) > 0)) (decide ((l2.length : Int) > 0))).bind fun t442 => (if t442 = true then (some (([(⟨([] : List Int), ([] : List Int)⟩ : S33)] : List (S33)))) else (some ([] : List (S33))))) else (if (l1.length : Int) = 0 then (aM.j0 k a0 l1 l2 ((l2.length : Int) == 0)) else (aM.j0 k a0 l1 l2 false))
end
theorem aM.calls (k : Nat) : ∀ (a0 : Int) (A1 : Option Addr) (c1 : Nat) (l1 : List (S33)) (A2 : Option Addr) (c2 : Nat) (l2 : List (S33))  (r : List (S33)) (w : World) (hr1 : Kd.C k33 w A1 l1.length l1) (hc1 : l1.length ≤ c1) (hr2 : Kd.C k33 w A2 l2.length l2) (hc2 : l2.length ≤ c2) (h : aM.f k a0 l1 l2 = some r),
 Calls Try.prog 22 #[.int .i64 a0, .slice A1 l1.length c1, .slice A2 l2.length c2, .func (.func 23) #[] #[]] w fun e w' => ∃ v0_ : Value, e = .returned (v0_) ∧ Kd.S k33 33 w' w.heap.size (fun _ => True) v0_ r ∧ Below w.heap.size w w' := by
 induction k using Nat.strongRecOn with
 | _ k ih =>
 intro a0 A1 c1 l1 A2 c2 l2 r w hr1 hc1 hr2 hc2 h
 cases k with
 | zero => exact absurd h (by simp [aM.f])
 | succ k =>
 simp only [aM.f] at h
 have hu33 := Try.underlying33
 have HR1 := yD hr1
 have HC1 := yD hc1
 clear hr1 hc1
 have HR2 := yD hr2
 have HC2 := yD hc2
 clear hr2 hc2
 have HB := yD (Below.refl w.heap.size w)
 have H : (if a0 = 0 then ((impl_either.f (decide ((l1.length : Int) > 0)) (decide ((l2.length : Int) > 0))).bind fun t442 => (if t442 = true then (some (([(⟨([] : List Int), ([] : List Int)⟩ : S33)] : List (S33)))) else (some ([] : List (S33))))) else (if (l1.length : Int) = 0 then (aM.j0 k a0 l1 l2 ((l2.length : Int) == 0)) else (aM.j0 k a0 l1 l2 false))) = some r := h
 clear h
 replace H := sQ H; rcases H with ⟨-, c5b0, c5b1, H⟩ | ⟨c5, c5b0, c5b1, H⟩
 ·
  replace ⟨t442, A6, H⟩ := sV H
  replace H := sS H; rcases H with ⟨rfl, H⟩ | ⟨rfl, H⟩
  ·
   obtain rfl := sJ H; go_enter Try.func22, Try.ntmps22
   go_wp2_with (first | (go_at_call 23; (refine (impl_either.calls (decide (0 < l1.length)) (decide (0 < l2.length)) false _ (by have h_ := A6.out; rw [show decide ((l1.length : Int) > 0) = decide (0 < l1.length) from decide_eq_decide.2 (by omega), show decide ((l2.length : Int) > 0) = decide (0 < l2.length) from decide_eq_decide.2 (by omega)] at h_; exact h_)).mono ?_); rintro e w' ⟨rfl, ⟨nd, rfl⟩⟩))
   go_ret
   exact ⟨_, kE, by first | exact Kd.S_nil _ _ _ _ _ | exact Kd.N_nil _ _ _ _ _ | exact Kd.V_nil _ _ _ _ _ | exact Kd.Q_nil _ _ _ _ _ | exact Kd.R_nil _ _ _ _ _, kR0 HB⟩
  obtain ⟨y443, hy443⟩ : ∃ y_ : List (S33), y_ = (([(⟨([] : List Int), ([] : List Int)⟩ : S33)] : List (S33))) := ⟨_, rfl⟩
  replace H : (some y443) = some r := by first | (rw [hy443]; with_reducible exact H) | (have H2_ := (Option.bind_some _ _).symm.trans H; rw [hy443]; with_reducible exact H2_) | (have H2_ := (Option.bind_some _ _).symm.trans H; with_reducible exact H2_) | with_reducible exact H | (rw [hy443]; exact H) | exact H
  have Ny443 := yD hy443
  clear hy443; obtain rfl := sJ H; go_enter Try.func22, Try.ntmps22
  go_wp2_with (first | (go_at_call 23; (refine (impl_either.calls (decide (0 < l1.length)) (decide (0 < l2.length)) true _ (by have h_ := A6.out; rw [show decide ((l1.length : Int) > 0) = decide (0 < l1.length) from decide_eq_decide.2 (by omega), show decide ((l2.length : Int) > 0) = decide (0 < l2.length) from decide_eq_decide.2 (by omega)] at h_; exact h_)).mono ?_); rintro e w' ⟨rfl, ⟨nd, rfl⟩⟩) | (refine gD 25 ?_; (try (refine gate_guard (by rfl) ?_; dsimp only)); refine Kd.S_lit k33 _ 33 ?hg (N := 25) ?hd (xs := ([(⟨([] : List Int), ([] : List Int)⟩ : S33)] : List (S33))) (inner := [.slice none 0 0, .slice none 0 0]) (ok := fun _ => True) (okp := fun _ => True) ?hr ?hp (fun _ hk => hk) trivial (Below.refl _ _) (Nat.le_refl _) (by simp) ?_; (case hd => rfl); (case hg => rfl); (case hr => first | (go_simp; done) | (go_simp; rfl)); (case hp => exact (cW.c2 (show Kd.M k33 _ _ _ (⟨([] : List Int), ([] : List Int)⟩ : S33) [.slice none 0 0, .slice none 0 0] from (k33_mkM _ _ _ (⟨([] : List Int), ([] : List Int)⟩ : S33) (Kd.R_nil _ _ _ _ _) (Kd.R_nil _ _ _ _ _))) (cW.none _ _))); intro v444 w8 ho9 hb hg_ hnew_; clear hg_ hnew_; (first | rw [← Ny443.out] at ho9 | (simp only [Int.reduceToNat] at ho9; rw [← Ny443.out] at ho9)); have HO445 := yD (zG ho9 (aD (kB HB))); replace HB := zX HB hb; clear hb ho9))
  go_ret
  exact ⟨_, kE, kS HO445, kR0 HB⟩
 have HC10 := yD H
 clear H; go_enter Try.func22, Try.ntmps22
 go_upto_region 5 with (fail)
 go_cut [33] (fun v33 wc => ∃ (kq : Nat) (x33_9 : Bool), v33 = .bool x33_9 ∧ aC (aM.j0 kq a0 l1 l2 x33_9 = some r) ∧ aC (kq ≤ k) ∧ aC (Below w.heap.size w wc))
 case first =>
  have H := HC10.out; clear HC10
  replace H := sQ H; rcases H with ⟨-, c11b0, c11b1, H⟩ | ⟨c11, c11b0, c11b1, H⟩
  ·
   (first | rw [c11b0] | (simp only [i64_w, i32_w]; rw [c11b0]) | (simp only [bne] at c11b0; rw [c11b0]) | skip)
   have H' := yD H
   clear H
   go_wp2
   go_meet
   case rel => exact ⟨_, (((l2.length : Int) == 0)), kF, H', ⟨by first | omega | exact Nat.le_refl _⟩, ⟨kR0 HB⟩⟩
  have c11b2 : ¬ (l1 = []) := fun h_ => c11 (by rw [h_]; rfl)
  (first | rw [c11b0] | (simp only [i64_w, i32_w]; rw [c11b0]) | (simp only [bne] at c11b0; rw [c11b0]) | skip)
  have H' := yD H
  clear H
  go_wp2
  go_meet
  case rel => exact ⟨_, (false), kF, H', ⟨by first | omega | exact Nat.le_refl _⟩, ⟨kR0 HB⟩⟩
 case rest =>
  clear HC10
  obtain ⟨kq, x33_9, rfl, HA, HJ9, HB⟩ := hcut
  cases kq with
  | zero => exact absurd HA.out (by simp [aM.j0])
  | succ kj9 =>
   have H := HA.out; clear HA
   simp only [aM.j0] at H
   replace H := sT H; rcases H with ⟨rfl, H⟩ | ⟨rfl, H⟩
   · obtain rfl := sJ H
     go_wp2
     go_ret
     exact ⟨_, kE, by first | exact Kd.S_nil _ _ _ _ _ | exact Kd.N_nil _ _ _ _ _ | exact Kd.V_nil _ _ _ _ _ | exact Kd.Q_nil _ _ _ _ _ | exact Kd.R_nil _ _ _ _ _, kR0 HB⟩
   have H' := yD H
   clear H
   go_wp2
   go_loopg [9, 10, 11, 34] kj9 (fun kq v9 v10 v11 v34 w' => ∃ (x9_2 : List (S33)) (x10_2 : List (S33)) (x11_2 : Int) (x34_2 : Int), v11 = .int .i64 x11_2 ∧ v34 = .int .i64 x34_2 ∧ aC (aM.l0 kq a0 l1 l2 x9_2 x10_2 x11_2 x34_2 = some r) ∧ aC (kq ≤ kj9) ∧ aC (Kd.S k33 33 w' w.heap.size (fun k_ => oB v10 k_) v9 x9_2) ∧ aC (Kd.S k33 33 w' w.heap.size (fun k_ => oB v9 k_) v10 x10_2) ∧ aC (Below w.heap.size w w'))
   case atStart => exact ⟨(([] : List (S33))), (([] : List (S33))), (0), (0), kF, kF, H', ⟨Nat.le_refl _⟩, ⟨by first | exact Kd.S_nil _ _ _ _ _ | exact Kd.N_nil _ _ _ _ _ | exact Kd.V_nil _ _ _ _ _ | exact Kd.Q_nil _ _ _ _ _ | exact Kd.R_nil _ _ _ _ _⟩, ⟨by first | exact Kd.S_nil _ _ _ _ _ | exact Kd.N_nil _ _ _ _ _ | exact Kd.V_nil _ _ _ _ _ | exact Kd.Q_nil _ _ _ _ _ | exact Kd.R_nil _ _ _ _ _⟩, ⟨kR0 HB⟩⟩
   case round =>
    clear H'
    obtain ⟨x9_2, x10_2, x11_2, x34_2, rfl, rfl, HA, HK2, HO_9, HO_10, HB⟩ := hrel
    cases gk with
    | zero => exact absurd HA.out (by simp [aM.l0])
    | succ k2 =>
     have H := HA.out; clear HA
     simp only [aM.l0] at H
     replace H := sG H; rcases H with ⟨c13b0, H⟩ | ⟨c13b0, H⟩
     · obtain rfl := sJ H
       go_wp2
       go_ret
       exact ⟨_, kE, mS HO_9 (fun _ hk => trivial), kR0 HB⟩
     have HC14 := yD H
     clear H
     go_upto_if 38 with (fail)
     go_cut [13] (fun v13 wc => ∃ (kq : Nat) (x13_13 : List (S33)), aC (aM.j2 kq a0 l1 l2 x9_2 x10_2 x11_2 x34_2 x13_13 x34_2 = some r) ∧ aC (kq ≤ k2) ∧ aC (Kd.S k33 33 wc w.heap.size (fun k_ => oB u10 k_ ∧ oB v13 k_) u9 x9_2) ∧ aC (Kd.S k33 33 wc w.heap.size (fun k_ => oB u9 k_ ∧ oB v13 k_) u10 x10_2) ∧ aC (Kd.S k33 33 wc w.heap.size (fun k_ => oB u9 k_ ∧ oB u10 k_) v13 x13_13) ∧ aC (Below w.heap.size w wc))
     case first =>
      have H := HC14.out; clear HC14
      replace H := sG H; rcases H with ⟨c15b0, H⟩ | ⟨c15b0, H⟩
      ·
       (first | rw [c15b0] | (simp only [i64_w, i32_w]; rw [c15b0]) | (simp only [bne] at c15b0; rw [c15b0]) | skip)
       have H' := yD H
       clear H
       go_wp2
       go_meet
       case rel => exact ⟨_, (([] : List (S33))), H', ⟨by have := HJ9.out; have := HK2.out; first | omega | exact Nat.le_refl _⟩, ⟨mS HO_9 (fun _ hk => ⟨hk, (by simp [oB, Value.ownBlock])⟩)⟩, ⟨mS HO_10 (fun _ hk => ⟨hk, (by simp [oB, Value.ownBlock])⟩)⟩, ⟨by first | exact Kd.S_nil _ _ _ _ _ | exact Kd.N_nil _ _ _ _ _ | exact Kd.V_nil _ _ _ _ _ | exact Kd.Q_nil _ _ _ _ _ | exact Kd.R_nil _ _ _ _ _⟩, ⟨kR0 HB⟩⟩
      (first | rw [c15b0] | (simp only [i64_w, i32_w]; rw [c15b0]) | (simp only [bne] at c15b0; rw [c15b0]) | skip)
      replace ⟨t446, A16, H⟩ := sV H
      replace ⟨t449, A17, H⟩ := sV H
      replace ⟨t452, A18, H⟩ := sV H
      have H' := yD H
      clear H
      go_wp2_with (first | (refine gC 50 ?_; refine gL 43 Try.func50 _ (dv (bW.calls k2 (fun k_ => k_ < w.heap.size) _ _ l1 x34_2 t446 _ ?z1 A16.out) fun v447 w19 ho0 hb => ?_); (case z1 => exact Kd.V_mk HC1.out (Kd.F_below (Kd.C_F k33_heap HR1.out) (kB HB))); have HO448 := yD (Kd.V_lower (Kd.V_mono (ok' := fun k_ => oB u9 k_ ∧ oB u10 k_) ho0 (fun k_ hk_ => ⟨Or.elim hk_ (fun hs_ => fun e_ => Nat.not_le.2 hs_ (Kd.S_base HO_9.out k_ e_.symm)) (fun hn_ => (Kd.cQ (Kd.S_lt (kS HO_9)) k_ hn_)), Or.elim hk_ (fun hs_ => fun e_ => Nat.not_le.2 hs_ (Kd.S_base HO_10.out k_ e_.symm)) (fun hn_ => (Kd.cQ (Kd.S_lt (kS HO_10)) k_ hn_))⟩)) (aD (kB HB))); replace HO_9 := yD (Kd.S_below (kS HO_9) hb); replace HO_10 := yD (Kd.S_below (kS HO_10) hb); replace HB := zX HB hb; clear hb ho0) | (refine gC 50 ?_; refine gL 46 Try.func50 _ (dv (bW.calls k2 (fun k_ => k_ < w.heap.size) _ _ l2 x34_2 t449 _ ?z1 A17.out) fun v450 w20 ho0 hb => ?_); (case z1 => exact Kd.V_mk HC2.out (Kd.F_below (Kd.C_F k33_heap HR2.out) (kB HB))); replace HO448 := yD (Kd.V_below (kU HO448) hb); have HO451 := yD (Kd.V_lower (Kd.V_mono (ok' := fun k_ => oB u9 k_ ∧ oB u10 k_) ho0 (fun k_ hk_ => ⟨Or.elim hk_ (fun hs_ => fun e_ => Nat.not_le.2 hs_ (Kd.S_base HO_9.out k_ e_.symm)) (fun hn_ => (Kd.cQ (Kd.S_lt (kS HO_9)) k_ hn_)), Or.elim hk_ (fun hs_ => fun e_ => Nat.not_le.2 hs_ (Kd.S_base HO_10.out k_ e_.symm)) (fun hn_ => (Kd.cQ (Kd.S_lt (kS HO_10)) k_ hn_))⟩)) (aD (kB HB))); replace HO_9 := yD (Kd.S_below (kS HO_9) hb); replace HO_10 := yD (Kd.S_below (kS HO_10) hb); replace HB := zX HB hb; clear hb ho0; obtain ⟨Ao21, co21, eo21⟩ := Kd.V_slice HO448.out; subst eo21; obtain ⟨Ao22, co22, eo22⟩ := Kd.V_slice HO451.out; subst eo22) | (refine gC 22 ?_; refine gL 48 Try.func22 _ (dv (ih k2 (by have := HJ9.out; have := HK2.out; omega) (wrap64 (a0 - 1)) _ _ t446 _ _ t449  t452 _ ?z1 ?z2 ?z3 ?z4 A18.out) fun v453 w23 ho0 hb => ?_); (case z1 => exact kV (Kd.cV HO448.out).2.2); (case z2 => exact (Kd.cV HO448.out).2.1); (case z3 => exact kV (Kd.cV HO451.out).2.2); (case z4 => exact (Kd.cV HO451.out).2.1); replace HO448 := yD (Kd.bR (kU HO448) (Kd.S_base ho0) hb); replace HO451 := yD (Kd.bR (kU HO451) (Kd.S_base ho0) hb); have HO454 := yD (zG (zD (zD ho0 (Kd.S_lt (kS HO_9))) (Kd.S_lt (kS HO_10))) (aD (kB HB))); replace HO_9 := yD (Kd.S_elder' (kS HO_9) (Kd.S_base ho0) hb); replace HO_10 := yD (Kd.S_elder' (kS HO_10) (Kd.S_base ho0) hb); replace HB := zX HB hb; clear hb ho0))
      go_meet
      case rel => exact ⟨_, (t452), H', ⟨by have := HJ9.out; have := HK2.out; first | omega | exact Nat.le_refl _⟩, ⟨kS HO_9⟩, ⟨kS HO_10⟩, ⟨mS HO454 (fun _ hk => ⟨hk.1.2, hk.2⟩)⟩, ⟨kR0 HB⟩⟩
     case rest =>
      clear HC14
      obtain ⟨kq, x13_13, HA, HJ13, HO_9, HO_10, HO_13, HB⟩ := hcut
      cases kq with
      | zero => exact absurd HA.out (by simp [aM.j2])
      | succ kj13 =>
       have H := HA.out; clear HA
       simp only [aM.j2] at H
       replace ⟨t455, A24, H⟩ := sV H
       replace H := sT H; rcases H with ⟨rfl, H⟩ | ⟨rfl, H⟩
       ·
        have H' := yD H
        clear H
        obtain ⟨Ao26, co26, eo26⟩ := Kd.S_slice HO_13.out
        subst eo26
        obtain ⟨Ao27, co27, eo27⟩ := Kd.S_slice HO_10.out
        subst eo27
        go_wp2_with (first | (refine gC 51 ?_; refine gL 51 Try.func51 _ (dn (impl_SameBoxes.calls kj13 _ _ x13_13 _ _ x10_2 true _ ?z1 ?z3 A24.out) fun w28 hb => ?_); (case z1 => exact ⟨kV (Kd.S_reads' HO_13.out).2.2, (Kd.S_reads' HO_13.out).2.1⟩); (case z3 => exact ⟨kV (Kd.S_reads' HO_10.out).2.2, (Kd.S_reads' HO_10.out).2.1⟩); replace HO_9 := yD (Kd.S_below (kS HO_9) hb); replace HO_10 := yD (Kd.S_below (kS HO_10) hb); replace HO_13 := yD (Kd.S_below (kS HO_13) hb); replace HB := zX HB hb; clear hb))
        go_roundg kj13
        case measure => have := HJ9.out; have := HK2.out; have := HJ13.out; omega
        case rel => exact ⟨(x9_2), (x10_2), (x11_2), (wrap64 (x34_2 + 1)), kF, kF, H', ⟨by have := HJ9.out; have := HK2.out; have := HJ13.out; omega⟩, ⟨mS HO_9 (fun _ hk => hk.1)⟩, ⟨mS HO_10 (fun _ hk => hk.1)⟩, ⟨kR0 HB⟩⟩
       replace ⟨t456, A29, H⟩ := sV H
       replace ⟨LMc30, H⟩ := sM H
       generalize hy459 : ((x9_2 ++ t456) : List (S33)) = y459 at H
       have Ny459 := yD hy459.symm
       clear hy459
       have H' := yD H
       clear H
       obtain ⟨Ao31, co31, eo31⟩ := Kd.S_slice HO_13.out
       subst eo31
       obtain ⟨Ao32, co32, eo32⟩ := Kd.S_slice HO_10.out
       subst eo32
       go_wp2_with (first | (refine gC 51 ?_; refine gL 51 Try.func51 _ (dn (impl_SameBoxes.calls kj13 _ _ x13_13 _ _ x10_2 false _ ?z1 ?z3 A24.out) fun w33 hb => ?_); (case z1 => exact ⟨kV (Kd.S_reads' HO_13.out).2.2, (Kd.S_reads' HO_13.out).2.1⟩); (case z3 => exact ⟨kV (Kd.S_reads' HO_10.out).2.2, (Kd.S_reads' HO_10.out).2.1⟩); replace HO_9 := yD (Kd.S_below (kS HO_9) hb); replace HO_10 := yD (Kd.S_below (kS HO_10) hb); replace HO_13 := yD (Kd.S_below (kS HO_13) hb); replace HB := zX HB hb; clear hb) | (refine gC 52 ?_; refine gL 57 Try.func52 _ (dv (impl_prefixed.calls kj13 (fun k_ => (oB u9 k_ ∧ oB (.slice Ao31 x13_13.length co31) k_)) _ _ x10_2 x11_2 x34_2 t456 _ ?z1 A29.out) fun v457 w34 ho0 hb => ?_); (case z1 => exact Kd.S_V (HO_10.out)); have HPHO458_HO_9 := yD (S_pair (kS HO_9) hb (zD (zD (zD (Kd.S_mono (ok' := fun k_ => True) ho0 (fun _ hk_ => trivial)) (Kd.S_lt (kS HO_9))) (Kd.S_lt (kS HO_10))) (Kd.S_lt (kS HO_13))) (aD (kB HB))); have HO458 := yD (zG (zD (zD (zD (Kd.S_mono (ok' := fun k_ => True) ho0 (fun _ hk_ => trivial)) (Kd.S_lt (kS HO_9))) (Kd.S_lt (kS HO_10))) (Kd.S_lt (kS HO_13))) (aD (kB HB))); replace HO_9 := yD (Kd.S_elder' (kS HO_9) (Kd.S_base ho0) hb); replace HO_10 := yD (Kd.S_elder' (kS HO_10) (Kd.S_base ho0) hb); replace HO_13 := yD (Kd.S_elder' (kS HO_13) (Kd.S_base ho0) hb); replace HB := zX HB hb; clear hb ho0; obtain ⟨Ao36, co36, eo36⟩ := Kd.S_slice HO458.out; subst eo36) | ((with_reducible refine gate_builtin (b := .append) (xs := #[.tmp 53, .tmp 57]) rfl ?_); (try (refine gate_guard (by rfl) ?_; dsimp only)); at_builtin; obtain ⟨N_, hA_, hB_⟩ := HPHO458_HO_9.out; refine S_append_rows k33 (w0 := w) w.heap.size rfl (.tmp 53) (.tmp 57) 29 33 (.agg #[(.slice none 0 0), (.slice none 0 0)]) 48 rfl Try.underlying29 info33 rfl (by decide) (by omega) u9 x9_2 t456 _ _ _ (fun k_ => oB (.slice Ao32 x10_2.length co32) k_ ∧ oB (.slice Ao31 x13_13.length co31) k_) (fun k_ => N_ ≤ k_ ∧ (((fun k_ => oB (.slice Ao32 x10_2.length co32) k_ ∧ oB (.slice Ao31 x13_13.length co31) k_)) k_ ∧ oB u9 k_)) rfl rfl ?aO ?aR (fun _ hk => hk.2) ?aF ?aB ?aS ?aL ?_; (case aR => exact (by (with_reducible repeat (first | apply yS | apply yT | apply yU)); exact Kd.S_mono hB_ (fun k_ hk => ⟨hk.2, ⟨⟨hk.1.1.2, hk.1.2⟩, hk.1.1.1.2⟩⟩))); (case aB => exact (kB HB)); (case aF => exact (fun k_ hk => ⟨Kd.cQ (Kd.S_lt (kS HO_10)) k_ hk, Kd.cQ (Kd.S_lt (kS HO_13)) k_ hk⟩)); (case aO => exact (by (with_reducible repeat (first | apply yS | apply yT | apply yU)); exact Kd.S_mono hA_ (fun _ hk => ⟨⟨hk.1.1, hk.1.2⟩, fun e_ => absurd hk.2 (Nat.not_lt.2 e_.1)⟩))); (case aS => exact (aD (kB HB))); (case aL => have := LMc30.out; omega); intro v460 w35 ho hb hg hat; rw [← Ny459.out] at ho; replace HO_10 := yD (Kd.S_after (ok := (fun k_ => oB (.slice Ao31 x13_13.length co31) k_ ∧ oB (.slice Ao36 t456.length co36) k_)) (mS HO_10 (fun _ hk => ⟨⟨hk.1.2, hk.2⟩, hk.1.1⟩)) hg hat); replace HO_13 := yD (Kd.S_after (ok := (fun k_ => oB (.slice Ao32 x10_2.length co32) k_ ∧ oB (.slice Ao36 t456.length co36) k_)) (mS HO_13 (fun _ hk => ⟨⟨hk.1.2, hk.2⟩, hk.1.1⟩)) hg hat); replace HB := yD (hb); have HO461 := yD (ho); clear HO_9 HO458; clear ho hb hg hat))
       go_roundg kj13
       case measure => have := HJ9.out; have := HK2.out; have := HJ13.out; omega
       case rel => exact ⟨(y459), (x13_13), (x34_2), (wrap64 (x34_2 + 1)), kF, kF, H', ⟨by have := HJ9.out; have := HK2.out; have := HJ13.out; omega⟩, ⟨mS HO461 (fun _ hk => hk.2)⟩, ⟨mS HO_13 (fun _ hk => hk.2)⟩, ⟨kR0 HB⟩⟩
def impl_normalFull.f (l0 : List (S33)) : Option (List (S33) × Int) := if (l0.length : Int) > 32 then (some ([], 5)) else (some (l0, 0))
set_option maxHeartbeats 8000000 in
theorem impl_normalFull.calls (P0_ : Nat → Prop) (u9000_ : Value) (l0 : List (S33)) (r1 : List (S33)) (r2 : Int) (w0 w : World) (hB : Below w0.heap.size w0 w) (ho0 : Kd.S k33 33 w w0.heap.size P0_ u9000_ l0) (h : impl_normalFull.f l0 = some (r1, r2)) :
 Calls Try.prog 21 #[u9000_] w fun e w' => ∃ v0_ : Value, e = .returned (.tuple #[v0_, .int .i64 r2]) ∧ Kd.S k33 33 w' w0.heap.size (fun k_ => (P0_ k_ ∨ w.heap.size ≤ k_)) v0_ r1 ∧ Below w0.heap.size w0 w' ∧ Kept w w' (fun k_ => P0_ k_) := by
 obtain ⟨A0, c0, rfl⟩ := Kd.S_slice ho0
 have HO_ := aC.mk ho0; have HB_ := aC.mk hB
 clear ho0 hB
 unfold impl_normalFull.f at h
 by_cases c2 : (l0.length : Int) > 32
 ·
  rw [if_pos c2] at h
  have c2b0 : decide (32 < (l0.length : Int)) = true := decide_eq_true c2
  have c2b1 : decide (32 < l0.length) = true := decide_eq_true (by omega)
  clear c2
  simp only [Option.some.injEq, Prod.mk.injEq] at h
  obtain ⟨rfl, rfl⟩ := h
  go_enter Try.func21, Try.ntmps21
  go_wp2
  go_ret2
  exact ⟨_, by first | rfl | simp, Kd.S_nil _ _ _ _ _, kR8 HB_, by (with_reducible repeat (first | apply Kept.alloc | apply Kept.drewN | apply Kept.drew)); exact Kept.refl _ _⟩
 ·
  rw [if_neg c2] at h
  have c2b0 : decide (32 < (l0.length : Int)) = false := decide_eq_false c2
  have c2b1 : decide (32 < l0.length) = false := decide_eq_false (by omega)
  clear c2
  simp only [Option.some.injEq, Prod.mk.injEq] at h
  obtain ⟨rfl, rfl⟩ := h
  go_enter Try.func21, Try.ntmps21
  go_wp2
  go_ret2
  exact ⟨_, by first | rfl | simp, by (with_reducible repeat (first | apply Kd.S_alloc | apply Kd.S_drewN | apply Kd.S_drew)); exact Kd.S_mono HO_.out (fun _ hk => .inl hk), kR8 HB_, by (with_reducible repeat (first | apply Kept.alloc | apply Kept.drewN | apply Kept.drew)); exact Kept.refl _ _⟩
mutual
def cL.l0 : Nat → List Int → List (S33) → List Int → Int → Int → Option ((List (S33)) × Int)
 | 0, _, _, _, _, _ => none
 | k + 1, x0, x6, x18, x19, x20 => if x20 < x19 then (if 0 ≤ x20 then (if x20 < (x18.length : Int) then ((aE.f x0 (rd x18 x20)).bind fun t475 => ((cK.f t475).bind fun t478 => (cL.l1 k x0 x6 t475 t478 x18 x19 x20 (t478.length : Int) 0))) else (none)) else (none)) else ((aM.f k (x0.length : Int) x6 ([] : List (S33))).bind fun t467 => ((impl_normalFull.f t467).bind fun bt470 => (some (bt470.1, bt470.2))))
def cL.l1 : Nat → List Int → List (S33) → List Int → List Int → List Int → Int → Int → Int → Int → Option ((List (S33)) × Int)
 | 0, _, _, _, _, _, _, _, _, _ => none
 | k + 1, x0, x6, x9, x10, x18, x19, x20, x30, x31 => if x31 < x30 then (if 0 ≤ x31 then (if x31 < (x10.length : Int) then (cL.l1 k x0 x6 x9 (x10.set (x31 : Int).toNat (wrap64 ((rd x10 x31) + 1))) x18 x19 x20 x30 (wrap64 (x31 + 1))) else (none)) else (none)) else (if x6.length < 2932031007402 then (cL.l0 k x0 (x6 ++ [(⟨x9, x10⟩ : S33)]) x18 x19 (wrap64 (x20 + 1))) else (none))
end
def cL.f (k : Nat) (l0 : List Int) (a1_0 : Int) (l1_1 l1_2 : List Int) (l1_3 l1_4 : List Int) (l1_5 : List (S68)) : Option ((List (S33)) × Int) := (impl_ValidSelection.f k l0 a1_0 l1_1 l1_2 l1_3 l1_4 l1_5).bind fun t463 => (if t463 = true then ((bC.f k a1_0 l1_1 l1_2 l1_3 l1_4 l1_5 l0).bind fun t464 => (cL.l0 k l0 ([] : List (S33)) t464 (t464.length : Int) 0)) else (some (([] : List (S33)), 1)))
theorem cL.calls (k : Nat) (A0 : Option Addr) (c0 : Nat) (l0 : List Int) (a1_0 : Int) (A1_1 : Option Addr) (c1_1 : Nat) (l1_1 : List Int) (A1_2 : Option Addr) (c1_2 : Nat) (l1_2 : List Int) (A1_3 : Option Addr) (c1_3 : Nat) (l1_3 : List Int) (A1_4 : Option Addr) (c1_4 : Nat) (l1_4 : List Int) (A1_5 : Option Addr) (c1_5 : Nat) (l1_5 : List (S68)) (r1 : List (S33)) (r2 : Int) (w : World) (C0 : Cm (Kd.int .i64) w A0 c0 l0) (C1_1 : Cm (Kd.int .i64) w A1_1 c1_1 l1_1) (C1_2 : Cm (Kd.int .i64) w A1_2 c1_2 l1_2) (C1_3 : Cm (Kd.int .i64) w A1_3 c1_3 l1_3) (C1_4 : Cm (Kd.int .i64) w A1_4 c1_4 l1_4) (C1_5 : Cm k68 w A1_5 c1_5 l1_5) (h : cL.f k l0 a1_0 l1_1 l1_2 l1_3 l1_4 l1_5 = some (r1, r2)) :
 Calls Try.prog 5 #[.slice A0 l0.length c0, .agg #[.int .i64 a1_0, .slice A1_1 l1_1.length c1_1, .slice A1_2 l1_2.length c1_2, .slice A1_3 l1_3.length c1_3, .slice A1_4 l1_4.length c1_4, .slice A1_5 l1_5.length c1_5]] w fun e w' => ∃ v0_ : Value, e = .returned (.tuple #[v0_, .int .i64 r2]) ∧ Kd.S k33 33 w' w.heap.size (fun _ => True) v0_ r1 ∧ Below w.heap.size w w' := by
 have hu26 := Try.underlying26; have hu33 := Try.underlying33
 have HB := yD (Below.refl w.heap.size w)
 have H : ((impl_ValidSelection.f k l0 a1_0 l1_1 l1_2 l1_3 l1_4 l1_5).bind fun t463 => (if t463 = true then ((bC.f k a1_0 l1_1 l1_2 l1_3 l1_4 l1_5 l0).bind fun t464 => (cL.l0 k l0 ([] : List (S33)) t464 (t464.length : Int) 0)) else (some (([] : List (S33)), 1)))) = some (r1, r2) := h
 clear h
 replace ⟨t463, A3, H⟩ := sV H
 replace H := sS H; rcases H with ⟨rfl, H⟩ | ⟨rfl, H⟩
 ·
  simp only [Option.some.injEq, Prod.mk.injEq] at H
  obtain ⟨rfl, rfl⟩ := H
  go_enter Try.func5, Try.ntmps5
  go_wp2_with (first | (refine gD 3 ?_; refine bF (N := 3) (cs := #[.int .i64 a1_0, .slice A1_1 l1_1.length c1_1, .slice A1_2 l1_2.length c1_2, .slice A1_3 l1_3.length c1_3, .slice A1_4 l1_4.length c1_4, .slice A1_5 l1_5.length c1_5]) (t := 26) HB ?_; intro gb462 w35 BK462 GW462 HB; have := cf6_ BK462.out) | (refine gC 17 ?_; refine gL 14 Try.func17 _ (dn (impl_ValidSelection.calls k _ _ l0 a1_0 _ _ l1_1 _ _ l1_2 _ _ l1_3 _ _ l1_4 _ _ l1_5 false _ (C0.b HB) (C1_1.b HB) (C1_2.b HB) (C1_3.b HB) (C1_4.b HB) (C1_5.b HB) A3.out) fun w37 hb => ?_); replace BK462 := zY BK462 hb; replace HB := zX HB hb; clear hb))
  go_ret2
  exact ⟨_, kE, by first | exact Kd.S_nil _ _ _ _ _ | exact Kd.N_nil _ _ _ _ _ | exact Kd.V_nil _ _ _ _ _ | exact Kd.Q_nil _ _ _ _ _ | exact Kd.R_nil _ _ _ _ _, kR1 HB⟩
 replace ⟨t464, A5, H⟩ := sV H
 have H' := yD H
 clear H; go_enter Try.func5, Try.ntmps5
 go_wp2_with (first | (refine gD 3 ?_; refine bF (N := 3) (cs := #[.int .i64 a1_0, .slice A1_1 l1_1.length c1_1, .slice A1_2 l1_2.length c1_2, .slice A1_3 l1_3.length c1_3, .slice A1_4 l1_4.length c1_4, .slice A1_5 l1_5.length c1_5]) (t := 26) HB ?_; intro gb462 w6 BK462 GW462 HB; have := cf6_ BK462.out) | (refine gC 17 ?_; refine gL 14 Try.func17 _ (dn (impl_ValidSelection.calls k _ _ l0 a1_0 _ _ l1_1 _ _ l1_2 _ _ l1_3 _ _ l1_4 _ _ l1_5 true _ (C0.b HB) (C1_1.b HB) (C1_2.b HB) (C1_3.b HB) (C1_4.b HB) (C1_5.b HB) A3.out) fun w8 hb => ?_); replace BK462 := zY BK462 hb; replace HB := zX HB hb; clear hb; have := cf6_ BK462.out) | (refine gC 18 ?_; refine gL 18 Try.func18 _ (dv (bC.calls k a1_0 _ _ l1_1 _ _ l1_2 _ _ l1_3 _ _ l1_4 _ _ l1_5 _ _ l0 t464 _ (C1_1.b HB) (C1_2.b HB) (C1_3.b HB) (C1_4.b HB) (C1_5.b HB) (C0.b HB) A5.out) fun v465 w10 ho0 hb => ?_); have HO466 := yD (yZ ho0 (aD (kB HB))); replace BK462 := zY BK462 hb; replace HB := zX HB hb; clear hb ho0; obtain ⟨Ao11, co11, eo11⟩ := Kd.bS HO466.out; subst eo11))
 (try simp only [Act.put, zH, zI, zJ])
 go_loopg [6, 20] k (fun kq v6 v20 w' => ∃ (x6_1 : List (S33)) (x18_1 : List Int) (x20_1 : Int), v20 = .int .i64 x20_1 ∧ aC (cL.l0 kq l0 x6_1 x18_1 (t464.length : Int) x20_1 = some (r1, r2)) ∧ aC (kq ≤ k) ∧ aC (Kd.S k33 33 w' w.heap.size (fun k_ => oB (.slice Ao11 t464.length co11) k_) v6 x6_1) ∧ aC (Kd.R (Kd.int .i64) 2 w' w.heap.size (fun _ => True) (.slice Ao11 t464.length co11) x18_1) ∧ aC (w'.heap[gb462]? = some (.cells #[.int .i64 a1_0, (.slice A1_1 l1_1.length c1_1), (.slice A1_2 l1_2.length c1_2), (.slice A1_3 l1_3.length c1_3), (.slice A1_4 l1_4.length c1_4), (.slice A1_5 l1_5.length c1_5)] 26 (0, 0))) ∧ aC (Below w.heap.size w w'))
 case atStart => exact ⟨(([] : List (S33))), (t464), (0), kF, H', ⟨Nat.le_refl _⟩, ⟨by first | exact Kd.S_nil _ _ _ _ _ | exact Kd.N_nil _ _ _ _ _ | exact Kd.V_nil _ _ _ _ _ | exact Kd.Q_nil _ _ _ _ _ | exact Kd.R_nil _ _ _ _ _⟩, ⟨kA HO466⟩, ⟨kM BK462⟩, ⟨kR1 HB⟩⟩
 case round =>
  clear H'
  obtain ⟨x6_1, x18_1, x20_1, rfl, HA, HK1, HO_6, HO_18, BK462, HB⟩ := hrel
  have hl18_1 := (zA HO_18.out).1
  rw [hl18_1] at HO_18
  (try simp only [hl18_1])
  (try simp only [hl18_1] at BK462)
  (try simp only [hl18_1] at HO_6)
  cases gk with
  | zero => exact absurd HA.out (by simp [cL.l0])
  | succ k1 =>
   have H := HA.out; clear HA
   simp only [cL.l0] at H
   replace H := sC H; rcases H with ⟨c12, H⟩ | ⟨c12, H⟩
   ·
    have c12b0 : decide (x20_1 < (t464.length : Int)) = false := zS c12
    (try (have c12b0h := c12b0; simp only [hl18_1] at c12b0h))
    clear c12
    replace ⟨t467, A29, H⟩ := sV H
    replace ⟨⟨t470, t473⟩, A30, H⟩ := sV H
    simp only [Option.some.injEq, Prod.mk.injEq] at H
    obtain ⟨rfl, rfl⟩ := H
    obtain ⟨Ao31, co31, eo31⟩ := Kd.S_slice HO_6.out
    subst eo31
    go_wp2_with (first | (refine gC 22 ?_; refine gL 51 Try.func22 #[.int .i64 (l0.length : Int), .slice Ao31 x6_1.length co31, .slice none 0 0, .func (.func 23) #[] #[]] ?_; (refine (aM.calls k1 (l0.length : Int) _ _ x6_1 _ _ ([] : List (S33))  t467 _ ?z1 ?z2 ?z3 ?z4 A29.out).mono ?_); (case z1 => exact kV (Kd.S_reads' HO_6.out).2.2); (case z2 => exact (Kd.S_reads' HO_6.out).2.1); (case z3 => exact Kd.C_nil _ _); (case z4 => exact Nat.le_refl _); rintro e w32 ⟨v468, rfl, ho0, hb⟩; refine ⟨_, rfl, ?_⟩; have HO469 := yD (zG (zD ho0 (Kd.S_lt (kS HO_6))) (aD (kB HB))); replace HO_6 := yD (Kd.S_elder' (kS HO_6) (Kd.S_base ho0) hb); replace BK462 := zY BK462 hb; replace HB := zX HB hb; clear hb ho0; obtain ⟨Ao33, co33, eo33⟩ := Kd.S_slice HO469.out; subst eo33) | (refine gC 21 ?_; refine gL 52 Try.func21 _ ((impl_normalFull.calls ?P5_1 (.slice Ao33 t467.length co33) t467 t470 t473 w _ ?z1 ?z2 A30.out).mono ?_); (case z1 => exact kR1 HB); (case z2 => exact HO469.out); rintro e w34 ⟨v471, rfl, ho0, hb, hkp⟩; refine ⟨_, rfl, ?_⟩; clear BK462; have HO472 := yD (Kd.S_mono (ok' := fun k_ => True) ho0 (fun k_ hk_ => trivial)); replace HB := yD (hb); clear HO469; clear hb hkp ho0))
    go_ret2
    exact ⟨_, kE, kS HO472, kR1 HB⟩
   have c12b0 : decide (x20_1 < (t464.length : Int)) = true := zR c12
   (try (have c12b0h := c12b0; simp only [hl18_1] at c12b0h))
   clear c12
   replace ⟨c13, H⟩ := sD H
   have c13b0 : decide (0 ≤ x20_1) = true := zR c13
   (try (have c13b0h := c13b0; simp only [hl18_1] at c13b0h))
   clear c13
   replace ⟨c14, H⟩ := sD H
   have c14b0 : decide (x20_1 < (x18_1.length : Int)) = true := zR c14
   (try (have c14b0h := c14b0; simp only [hl18_1] at c14b0h))
   clear c14
   replace ⟨t475, A15, H⟩ := sV H
   replace ⟨t478, A16, H⟩ := sV H
   have H' := yD H
   clear H
   obtain ⟨p474, q474, ad474, e474, hx474_0⟩ := sI (Kd.aX (zA HO_18.out).2.2 x20_1)
   cases e474
   go_wp2_with (first | (refine gC 19 ?_; refine gL 26 Try.func19 _ (dv (aE.calls _ _ l0 (rd x18_1 x20_1) t475 _ (C0.b HB) A15.out) fun v476 w17 ho0 hb => ?_); replace HO_6 := yD (Kd.S_elder' (kS HO_6) (yH ho0) hb); have HO477 := yD (yZ (yJ ho0 (yK (kA HO_18))) (aD (kB HB))); replace HO_18 := yD (Kd.R_elder' (kA HO_18) (yH ho0) hb); replace BK462 := zY BK462 hb; replace HB := zX HB hb; clear hb ho0; obtain ⟨Ao18, co18, eo18⟩ := Kd.bS HO477.out; subst eo18) | (refine gC 20 ?_; refine gL 28 Try.func20 _ (dv (cK.calls _ _ t475 t478 _ ?z1 A16.out) fun v479 w19 ho0 hb => ?_); (case z1 => exact ⟨kV (zA HO477.out).2.2, (zA HO477.out).2.1⟩); replace HO_6 := yD (Kd.S_elder' (kS HO_6) (yH ho0) hb); have HO480 := yD (yZ (yJ (yJ ho0 (yK (kA HO_18))) (yK (kA HO477))) (aD (kB HB))); replace HO_18 := yD (Kd.R_elder' (kA HO_18) (yH ho0) hb); replace HO477 := yD (Kd.R_elder' (kA HO477) (yH ho0) hb); replace BK462 := zY BK462 hb; replace HB := zX HB hb; clear hb ho0; obtain ⟨Ao20, co20, eo20⟩ := Kd.bS HO480.out; subst eo20))
   (try simp only [Act.put, zH, zI, zJ])
   go_loopg [31] k1 (fun kq v31 w' => ∃ (x10_2 : List Int) (x31_2 : Int), v31 = .int .i64 x31_2 ∧ aC (cL.l1 kq l0 x6_1 t475 x10_2 x18_1 (t464.length : Int) x20_1 (t478.length : Int) x31_2 = some (r1, r2)) ∧ aC (kq ≤ k1) ∧ aC (Kd.S k33 33 w' w.heap.size (fun k_ => oB (.slice Ao18 t475.length co18) k_ ∧ oB (.slice Ao20 t478.length co20) k_ ∧ some k_ ≠ ((.slice (some ad474) x18_1.length co11) : Value).ownBlock) u6 x6_1) ∧ aC (Kd.R (Kd.int .i64) 2 w' w.heap.size (fun k_ => oB (.slice Ao20 t478.length co20) k_ ∧ some k_ ≠ ((.slice (some ad474) x18_1.length co11) : Value).ownBlock) (.slice Ao18 t475.length co18) t475) ∧ aC (Kd.R (Kd.int .i64) 2 w' w.heap.size (fun k_ => oB (.slice Ao18 t475.length co18) k_ ∧ some k_ ≠ ((.slice (some ad474) x18_1.length co11) : Value).ownBlock) (.slice Ao20 t478.length co20) x10_2) ∧ aC (Kd.R (Kd.int .i64) 2 w' w.heap.size (fun k_ => oB (.slice Ao18 t475.length co18) k_ ∧ oB (.slice Ao20 t478.length co20) k_) (.slice (some ad474) x18_1.length co11) x18_1) ∧ aC (w'.heap[gb462]? = some (.cells #[.int .i64 a1_0, (.slice A1_1 l1_1.length c1_1), (.slice A1_2 l1_2.length c1_2), (.slice A1_3 l1_3.length c1_3), (.slice A1_4 l1_4.length c1_4), (.slice A1_5 l1_5.length c1_5)] 26 (0, 0))) ∧ aC (Below w.heap.size w w'))
   case atStart => exact ⟨(t478), (0), kF, H', ⟨Nat.le_refl _⟩, ⟨by (try simp only [hl18_1]); (with_reducible repeat (first | apply yS | apply yT | apply yU)); exact Kd.S_mono HO_6.out (fun _ hk => ⟨hk.1.2, ⟨hk.2, hk.1.1⟩⟩)⟩, ⟨by (try simp only [hl18_1]); (with_reducible repeat (first | apply yA | apply yB | apply yC)); exact zF HO477.out (fun _ hk => ⟨hk.2, hk.1.2⟩)⟩, ⟨by (try simp only [hl18_1]); (with_reducible repeat (first | apply yA | apply yB | apply yC)); exact zF HO480.out (fun _ hk => ⟨hk.2, hk.1.2⟩)⟩, ⟨by (try simp only [hl18_1]); (with_reducible repeat (first | apply yA | apply yB | apply yC)); exact zF HO_18.out (fun _ hk => ⟨hk.1.2, hk.2⟩)⟩, ⟨by (try simp only [hl18_1]); (with_reducible repeat (first | refine yM ?_ _ | refine yO ?_ | refine yN ?_ _)); exact BK462.out⟩, ⟨kR1 HB⟩⟩
   case round =>
    clear H'
    obtain ⟨x10_2, x31_2, rfl, HA, HK2, HO_6, HO_9, HO_10, HO_18, BK462, HB⟩ := hrel
    have hl10_2 := (zA HO_10.out).1
    rw [hl10_2] at HO_10
    (try simp only [hl10_2])
    (try simp only [hl10_2] at BK462)
    (try simp only [hl10_2] at HO_6)
    (try simp only [hl10_2] at HO_9)
    (try simp only [hl10_2] at HO_18)
    cases gk with
    | zero => exact absurd HA.out (by simp [cL.l1])
    | succ k2 =>
     have H := HA.out; clear HA
     simp only [cL.l1] at H
     replace H := sC H; rcases H with ⟨c21, H⟩ | ⟨c21, H⟩
     ·
      have c21b0 : decide (x31_2 < (t478.length : Int)) = false := zS c21
      (try (have c21b0h := c21b0; simp only [hl18_1, hl10_2] at c21b0h))
      clear c21
      replace ⟨LMc27, H⟩ := sM H
      generalize hy483 : ((x6_1 ++ [(⟨t475, x10_2⟩ : S33)]) : List (S33)) = y483 at H
      have Ny483 := yD hy483.symm
      clear hy483
      have H' := yD H
      clear H
      go_wp2_with (first | ((with_reducible refine gate_builtin (b := .append) (xs := #[.tmp 41, .tmp 45]) rfl ?_); at_builtin; refine Kd.S_append k33 (w0 := w) w.heap.size rfl (.tmp 41) (.tmp 45) 29 33 (.agg #[(.slice none 0 0), (.slice none 0 0)]) 48 rfl Try.underlying29 info33 rfl (by decide) (by omega) u6 x6_1 (⟨t475, x10_2⟩ : S33) [.slice Ao18 t475.length co18, .slice Ao20 x10_2.length co20] (fun k_ => oB (.slice (some ad474) x18_1.length co11) k_) (fun k_ => some k_ = (.slice Ao18 t475.length co18 : Value).ownBlock ∨ some k_ = (.slice Ao20 x10_2.length co20 : Value).ownBlock) rfl rfl ?aP (fun k_ hk_ => hk_.elim (fun h_ => ((zF (ok' := fun k_ => ((fun k_ => oB (.slice (some ad474) x18_1.length co11) k_)) k_ ∧ oB u6 k_) (Kd.cH (HO_9.out) (Kd.S_typed HO_6.out) (by decide)) (fun k_ hk => ⟨hk.1.2, hk.2⟩))).1 k_ h_.symm) (fun h_ => ((zF (ok' := fun k_ => ((fun k_ => oB (.slice (some ad474) x18_1.length co11) k_)) k_ ∧ oB u6 k_) (Kd.cH (HO_10.out) (Kd.S_typed HO_6.out) (by decide)) (fun k_ hk => ⟨hk.1.2, hk.2⟩))).1 k_ h_.symm)) ?aF ?aO ?aB ?aS ?aL ?_; (case aP => exact k33_mkM _ _ _ (⟨t475, x10_2⟩ : S33) (zF (Kd.R_tight rfl (zF (ok' := fun k_ => ((fun k_ => oB (.slice (some ad474) x18_1.length co11) k_)) k_ ∧ oB u6 k_) (Kd.cH (HO_9.out) (Kd.S_typed HO_6.out) (by decide)) (fun k_ hk => ⟨hk.1.2, hk.2⟩))) (fun _ h_ => Or.inl h_)) (zF (Kd.R_tight rfl (zF (ok' := fun k_ => ((fun k_ => oB (.slice (some ad474) x18_1.length co11) k_)) k_ ∧ oB u6 k_) (Kd.cH (HO_10.out) (Kd.S_typed HO_6.out) (by decide)) (fun k_ hk => ⟨hk.1.2, hk.2⟩))) (fun _ h_ => Or.inr (h_)))); (case aB => exact (kB HB)); (case aF => exact (fun k_ hk => Kd.cQ (yK (kA HO_18)) k_ hk)); (case aO => exact (mS HO_6 (fun k_ hk => ⟨hk.2.2, fun e_ => e_.elim (fun h_ => hk.1 h_) (fun h_ => hk.2.1 h_)⟩))); (case aS => exact (aD (kB HB))); (case aL => have := LMc27.out; omega); intro v484 w28 ho hb hg hat; rw [← Ny483.out] at ho; replace HO_18 := yD (Kd.R_over' (kA HO_18) (Kd.S_typed (kS HO_6)) (by decide) hg); replace BK462 := yD (blk_grown (g := gb462) (o := .cells #[.int .i64 a1_0, .slice A1_1 l1_1.length c1_1, .slice A1_2 l1_2.length c1_2, .slice A1_3 l1_3.length c1_3, .slice A1_4 l1_4.length c1_4, .slice A1_5 l1_5.length c1_5] 26 (0, 0)) (kM BK462) hg (Kd.S_ne HO_6.out BK462.out (by decide))); replace HB := yD (hb); have HO485 := yD (ho); clear HO_6 HO_10 HO_9; clear ho hb hg hat))
      (try simp only [← hl18_1, ← hl10_2])
      go_roundg k2
      case measure => have := HK1.out; have := HK2.out; omega
      case rel => exact ⟨(y483), (x18_1), (wrap64 (x20_1 + 1)), kF, H', ⟨by have := HK1.out; have := HK2.out; omega⟩, ⟨by (try simp only [hl18_1]); (try simp only [hl10_2]); (with_reducible repeat (first | apply yS | apply yT | apply yU)); exact HO485.out⟩, ⟨by (try simp only [hl18_1]); (try simp only [hl10_2]); (with_reducible repeat (first | apply yA | apply yB | apply yC)); exact zF HO_18.out (fun _ hk => trivial)⟩, ⟨by (try simp only [hl18_1]); (try simp only [hl10_2]); (with_reducible repeat (first | refine yM ?_ _ | refine yO ?_ | refine yN ?_ _)); exact BK462.out⟩, ⟨kR1 HB⟩⟩
     have c21b0 : decide (x31_2 < (t478.length : Int)) = true := zR c21
     (try (have c21b0h := c21b0; simp only [hl18_1, hl10_2] at c21b0h))
     clear c21
     replace ⟨c22, H⟩ := sD H
     have c22b0 : decide (0 ≤ x31_2) = true := zR c22
     (try (have c22b0h := c22b0; simp only [hl18_1, hl10_2] at c22b0h))
     clear c22
     replace ⟨c23, H⟩ := sD H
     have c23b0 : decide (x31_2 < (x10_2.length : Int)) = true := zR c23
     (try (have c23b0h := c23b0; simp only [hl18_1, hl10_2] at c23b0h))
     clear c23
     generalize hy482 : ((x10_2.set (x31_2 : Int).toNat (wrap64 ((rd x10_2 x31_2) + 1))) : List Int) = y482 at H
     have Ny482 := yD hy482.symm
     clear hy482
     have H' := yD H
     clear H
     obtain ⟨p481, q481, ad481, e481, hx481_0⟩ := sI (Kd.aX (zA HO_10.out).2.2 x31_2)
     cases e481
     have p24 : 0 ≤ (x31_2 : Int) := zP (by assumption)
     have q24 : (x31_2 : Int) < ((x10_2.length : Int) : Int) := zP (by assumption)
     obtain ⟨go24, co24, eo24, gb24, gl24, cl24, HG24⟩ := Kd.R_form HO_10.out (by omega)
     (first | cases eo24 | (injection eo24 with ea_ en_ ec_; (first | subst ea_ | (injection ea_ with ea_; subst ea_)); subst ec_; clear en_))
     have GB24 := yD gb24
     have GG24 := yD HG24
     clear gb24 gl24 HG24
     (first | simp only [add_plain] at hx481_0 | skip)
     obtain ⟨hx24_0, hf24_0⟩ := Kd.R_celln 0 HO_10.out (x31_2 : Int) p24 q24
     replace p24 := eq_true p24; replace q24 := eq_true q24
     have HP25 := Kd.R_putg HO_10.out (x31_2 : Int) (wrap64 ((rd x10_2 x31_2) + 1))
     go_wp2_with (first | ((with_reducible refine gate_store (t := 2) (p := 39) rfl ?_); refine store_event (t := 2) (p := 39) (v := ?vo_w26) (w1 := (wr.setCell ⟨go24, (x31_2 : Int).toNat, none⟩ (.int .i64 (wrap64 ((rd x10_2 x31_2) + 1))))) ?hg ?ho ?hn ?hr ?_; (case ho => rfl); (case hg => rfl); (case hn => rfl); (case hr => first | (go_simp; done) | (go_simp; rfl)); intro w26 hw; have hg : wr.grownBy w26 (some go24) := (by rw [hw]; exact HP25.2); have hp_ : Kd.R (Kd.int .i64) 2 w26 w.heap.size (fun k_ => oB (.slice Ao18 t475.length co18) k_ ∧ oB (.slice (some ad474) x18_1.length co11) k_) (.slice (some ⟨go24, 0, none⟩) x10_2.length co20) y482 := (by rw [hw, Ny482.out]; exact HP25.1); clear HP25; replace HO_6 := yD (Kd.S_after (v := (.slice (some ⟨go24, 0, none⟩) x10_2.length co20)) (v1 := (.slice (some ⟨go24, 0, none⟩) x10_2.length co20)) (ok := (fun k_ => oB (.slice Ao18 t475.length co18) k_ ∧ oB (.slice (some ad474) x18_1.length co11) k_)) (mS HO_6 (fun _ hk => ⟨⟨hk.1, hk.2.2⟩, hk.2.1⟩)) hg (.inl rfl)); replace HO_9 := yD (Kd.R_after (v := (.slice (some ⟨go24, 0, none⟩) x10_2.length co20)) (v1 := (.slice (some ⟨go24, 0, none⟩) x10_2.length co20)) (ok := (fun k_ => oB (.slice (some ad474) x18_1.length co11) k_)) (mR HO_9 (fun _ hk => ⟨hk.2, hk.1⟩)) hg (.inl rfl)); replace HO_18 := yD (Kd.R_after (v := (.slice (some ⟨go24, 0, none⟩) x10_2.length co20)) (v1 := (.slice (some ⟨go24, 0, none⟩) x10_2.length co20)) (ok := (fun k_ => oB (.slice Ao18 t475.length co18) k_)) (kA HO_18) hg (.inl rfl)); replace BK462 := yD (blk_grown (g := gb462) (o := .cells #[.int .i64 a1_0, .slice A1_1 l1_1.length c1_1, .slice A1_2 l1_2.length c1_2, .slice A1_3 l1_3.length c1_3, .slice A1_4 l1_4.length c1_4, .slice A1_5 l1_5.length c1_5] 26 (0, 0)) (kM BK462) hg (Kd.R_ne HO_10.out BK462.out (by decide))); replace HO_10 := yD (hp_); replace HB := yD ((by rw [hw]; exact yE (HB.out) GB24.out : Below w.heap.size w w26)); clear hg hw hp_))
     (try simp only [← hl10_2])
     go_roundg k2
     case measure => have := HK1.out; have := HK2.out; omega
     case rel => exact ⟨(y482), (wrap64 (x31_2 + 1)), kF, H', ⟨by have := HK1.out; have := HK2.out; omega⟩, ⟨by (try simp only [hl18_1]); (try simp only [hl10_2]); (with_reducible repeat (first | apply yS | apply yT | apply yU)); exact Kd.S_mono HO_6.out (fun _ hk => ⟨hk.1.1, ⟨hk.2, hk.1.2⟩⟩)⟩, ⟨by (try simp only [hl18_1]); (try simp only [hl10_2]); (with_reducible repeat (first | apply yA | apply yB | apply yC)); exact zF HO_9.out (fun _ hk => ⟨hk.2, hk.1⟩)⟩, ⟨by (try simp only [hl18_1]); (try simp only [hl10_2]); (with_reducible repeat (first | apply yA | apply yB | apply yC)); exact HO_10.out⟩, ⟨by (try simp only [hl18_1]); (try simp only [hl10_2]); (with_reducible repeat (first | apply yA | apply yB | apply yC)); exact HO_18.out⟩, ⟨by (try simp only [hl18_1]); (try simp only [hl10_2]); (with_reducible repeat (first | refine yM ?_ _ | refine yO ?_ | refine yN ?_ _)); exact BK462.out⟩, ⟨kR1 HB⟩⟩
def bO.f (a0 a1 a2 : Int) : Option (Bool) := if a0 ≥ a1 then (some (decide (a0 ≤ a2))) else (some false)
theorem bO.calls (a0 : Int) (a1 : Int) (a2 : Int) (r : Bool) (w : World) (h : bO.f a0 a1 a2 = some r) :
 Calls Try.prog 29 #[.int .i64 a0, .int .i64 a1, .int .i64 a2] w fun e w' => e = .returned (.bool r) ∧ aT w w' := by
 unfold bO.f at h
 have H := h
 clear h
 replace H := sC H; rcases H with ⟨c4, H⟩ | ⟨c4, H⟩
 ·
  have c4b0 : decide (a1 ≤ a0) = false := zS c4; clear c4; obtain rfl := sJ H; go_enter Try.func29, Try.ntmps29
  go_wp2
  go_ret
  exact ⟨by first | rfl | (simp; done) | (simp [*]; done), by repeat (first | exact aT.refl _ | apply aT.step)⟩
 have c4b0 : decide (a1 ≤ a0) = true := zR c4; clear c4; obtain rfl := sJ H; go_enter Try.func29, Try.ntmps29
 go_wp2
 go_ret
 exact ⟨by first | rfl | (simp; done) | (simp [*]; done), by repeat (first | exact aT.refl _ | apply aT.step)⟩
def cP.l0 : Nat → List Int → Int → Int → Option (Bool)
 | 0, _, _, _ => none
 | k + 1, x0, x3, x4 => if x4 < (x0.length : Int) then (if 0 ≤ x4 then ((bO.f (rd x0 x4) 0 40).bind fun t487 => (if t487 = true then (cP.l0 k x0 (wrap64 (x3 * (rd x0 x4))) (wrap64 (x4 + 1))) else (some false))) else (none)) else (some (decide (x3 ≤ 600)))
def cP.f (k : Nat) (l0 : List Int) : Option (Bool) := if (l0.length : Int) > 3 then (some false) else (cP.l0 k l0 1 0)
theorem cP.calls (k : Nat) (A0 : Option Addr) (c0 : Nat) (l0 : List Int) (r : Bool) (w : World) (C0 : Cm (Kd.int .i64) w A0 c0 l0) (h : cP.f k l0 = some r) :
 Calls Try.prog 27 #[.slice A0 l0.length c0] w fun e w' => e = .returned (.bool r) ∧ aT w w' := by
 unfold cP.f at h
 have H := h
 clear h
 replace H := sB H; rcases H with ⟨c2, H⟩ | ⟨c2, H⟩
 ·
  have c2b0 : decide (3 < (l0.length : Int)) = true := zR c2
  have c2b1 : decide (3 < l0.length) = true := zR (by omega)
  clear c2; obtain rfl := sJ H; go_enter Try.func27, Try.ntmps27
  go_wp2
  go_ret
  exact ⟨by first | rfl | (simp; done) | (simp [*]; done), by repeat (first | exact aT.refl _ | apply aT.step)⟩
 have c2b0 : decide (3 < (l0.length : Int)) = false := zS c2
 have c2b1 : decide (3 < l0.length) = false := zS (by omega)
 clear c2
 have H' := yD H
 clear H; go_enter Try.func27, Try.ntmps27
 go_wp2
 go_loopg [3, 4] k (fun kq v3 v4 w' => ∃ (x3_1 : Int) (x4_1 : Int), v3 = .int .i64 x3_1 ∧ v4 = .int .i64 x4_1 ∧ aC (cP.l0 kq l0 x3_1 x4_1 = some r) ∧ aC (kq ≤ k) ∧ aT w w')
 case atStart => exact ⟨(1), (0), kF, kF, H', ⟨Nat.le_refl _⟩, by repeat (first | exact aT.refl _ | apply aT.step)⟩
 case round =>
  clear H'
  obtain ⟨x3_1, x4_1, rfl, rfl, HA, HK1, ⟨m1, rfl⟩⟩ := hrel
  cases gk with
  | zero => exact absurd HA.out (by simp [cP.l0])
  | succ k1 =>
   have H := HA.out; clear HA
   simp only [cP.l0] at H
   replace H := sG H; rcases H with ⟨c3b0, H⟩ | ⟨c3b0, H⟩
   · obtain rfl := sJ H
     go_wp2
     go_ret
     exact ⟨by first | rfl | (simp; done) | (simp [*]; done), by repeat (first | exact aT.refl _ | apply aT.step)⟩
   replace ⟨c4b0, H⟩ := sE H
   replace ⟨t487, A5, H⟩ := sV H
   replace H := sS H; rcases H with ⟨rfl, H⟩ | ⟨rfl, H⟩
   ·
    obtain rfl := sJ H
    obtain ⟨p486, q486, ad486, e486, hx486_0⟩ := sI (Kd.aX C0.r x4_1)
    cases e486
    go_wp2_with (first | (refine gC 29 ?_; refine gL 18 Try.func29 _ (dm (bO.calls (rd l0 x4_1) 0 40 false _ A5.out) fun nd => ?_)))
    go_ret
    exact ⟨by first | rfl | (simp; done) | (simp [*]; done), by repeat (first | exact aT.refl _ | apply aT.step)⟩
   have H' := yD H
   clear H
   obtain ⟨p486, q486, ad486, e486, hx486_0⟩ := sI (Kd.aX C0.r x4_1)
   cases e486
   go_wp2_with (first | (refine gC 29 ?_; refine gL 18 Try.func29 _ (dm (bO.calls (rd l0 x4_1) 0 40 true _ A5.out) fun nd => ?_); have p488 : 0 ≤ (x4_1 : Int) := zP (by assumption); have q488 : x4_1 < (l0.length : Int) := zP (by assumption); obtain ⟨ad488, e488, hx488_0⟩ := Kd.aX C0.r x4_1 p488 q488; obtain rfl : ad486 = ad488 := (by injection e488); replace p488 := eq_true p488; replace q488 := eq_true q488))
   go_roundg k1
   case measure => have := HK1.out; omega
   case rel => exact ⟨(wrap64 (x3_1 * (rd l0 x4_1))), (wrap64 (x4_1 + 1)), kF, kF, H', ⟨by have := HK1.out; omega⟩, by repeat (first | exact aT.refl _ | apply aT.step)⟩
def spec_l06Plain.f (a0_0 : Int) (l0_1 l0_2 : List Int) (l0_3 l0_4 : List Int) (l0_5 : List (S68)) : Option (Bool) := if (l0_1.length : Int) = 0 then (if (l0_2.length : Int) = 0 then (if (l0_3.length : Int) = 0 then (some ((l0_4.length : Int) == 0)) else (some false)) else (some false)) else (some false)
theorem spec_l06Plain.calls (a0_0 : Int) (A0_1 : Option Addr) (c0_1 : Nat) (l0_1 : List Int) (A0_2 : Option Addr) (c0_2 : Nat) (l0_2 : List Int) (A0_3 : Option Addr) (c0_3 : Nat) (l0_3 : List Int) (A0_4 : Option Addr) (c0_4 : Nat) (l0_4 : List Int) (A0_5 : Option Addr) (c0_5 : Nat) (l0_5 : List (S68)) (r : Bool) (w : World) (C0_1 : Cm (Kd.int .i64) w A0_1 c0_1 l0_1) (C0_2 : Cm (Kd.int .i64) w A0_2 c0_2 l0_2) (C0_3 : Cm (Kd.int .i64) w A0_3 c0_3 l0_3) (C0_4 : Cm (Kd.int .i64) w A0_4 c0_4 l0_4) (C0_5 : Cm k68 w A0_5 c0_5 l0_5) (h : spec_l06Plain.f a0_0 l0_1 l0_2 l0_3 l0_4 l0_5 = some r) :
 Calls Try.prog 79 #[.agg #[.int .i64 a0_0, .slice A0_1 l0_1.length c0_1, .slice A0_2 l0_2.length c0_2, .slice A0_3 l0_3.length c0_3, .slice A0_4 l0_4.length c0_4, .slice A0_5 l0_5.length c0_5]] w fun e w' => e = .returned (.bool r) ∧ Below w.heap.size w w' := by
 have hu26 := Try.underlying26
 have HB := yD (Below.refl w.heap.size w)
 unfold spec_l06Plain.f at h
 have H := h
 clear h
 replace H := sP H; rcases H with ⟨c2, c2b0, c2b1, H⟩ | ⟨-, c2b0, c2b1, H⟩
 ·
  have c2b2 : ¬ (l0_1 = []) := fun h_ => c2 (by rw [h_]; rfl)
  obtain rfl := sJ H; go_enter Try.func79, Try.ntmps79
  go_wp2_with (first | (refine gD 1 ?_; (try (refine gate_guard (by rfl) ?_; dsimp only)); refine bF (N := 1) (cs := #[.int .i64 a0_0, .slice A0_1 l0_1.length c0_1, .slice A0_2 l0_2.length c0_2, .slice A0_3 l0_3.length c0_3, .slice A0_4 l0_4.length c0_4, .slice A0_5 l0_5.length c0_5]) (t := 26) HB ?_; intro gb489 w11 BK489 GW489 HB; have := cf6_ BK489.out))
  go_ret
  exact ⟨kE, kR1 HB⟩
 replace H := sP H; rcases H with ⟨c3, c3b0, c3b1, H⟩ | ⟨-, c3b0, c3b1, H⟩
 ·
  have c3b2 : ¬ (l0_2 = []) := fun h_ => c3 (by rw [h_]; rfl)
  obtain rfl := sJ H; go_enter Try.func79, Try.ntmps79
  go_wp2_with (first | (refine gD 1 ?_; (try (refine gate_guard (by rfl) ?_; dsimp only)); refine bF (N := 1) (cs := #[.int .i64 a0_0, .slice A0_1 l0_1.length c0_1, .slice A0_2 l0_2.length c0_2, .slice A0_3 l0_3.length c0_3, .slice A0_4 l0_4.length c0_4, .slice A0_5 l0_5.length c0_5]) (t := 26) HB ?_; intro gb489 w9 BK489 GW489 HB; have := cf6_ BK489.out))
  go_ret
  exact ⟨kE, kR1 HB⟩
 replace H := sQ H; rcases H with ⟨-, c4b0, c4b1, H⟩ | ⟨c4, c4b0, c4b1, H⟩
 ·
  obtain rfl := sJ H; go_enter Try.func79, Try.ntmps79
  go_wp2_with (first | (refine gD 1 ?_; (try (refine gate_guard (by rfl) ?_; dsimp only)); refine bF (N := 1) (cs := #[.int .i64 a0_0, .slice A0_1 l0_1.length c0_1, .slice A0_2 l0_2.length c0_2, .slice A0_3 l0_3.length c0_3, .slice A0_4 l0_4.length c0_4, .slice A0_5 l0_5.length c0_5]) (t := 26) HB ?_; intro gb489 w5 BK489 GW489 HB; have := cf6_ BK489.out))
  go_ret
  exact ⟨kE, kR1 HB⟩
 have c4b2 : ¬ (l0_3 = []) := fun h_ => c4 (by rw [h_]; rfl)
 obtain rfl := sJ H; go_enter Try.func79, Try.ntmps79
 go_wp2_with (first | (refine gD 1 ?_; (try (refine gate_guard (by rfl) ?_; dsimp only)); refine bF (N := 1) (cs := #[.int .i64 a0_0, .slice A0_1 l0_1.length c0_1, .slice A0_2 l0_2.length c0_2, .slice A0_3 l0_3.length c0_3, .slice A0_4 l0_4.length c0_4, .slice A0_5 l0_5.length c0_5]) (t := 26) HB ?_; intro gb489 w7 BK489 GW489 HB; have := cf6_ BK489.out))
 go_ret
 exact ⟨kE, kR1 HB⟩
def spec_l06End.f (a0_0 : Int) (l0_1 l0_2 : List Int) (l0_3 l0_4 : List Int) (l0_5 : List (S68)) (a1 : Int) : Option (Int) := if 0 ≤ a1 then (if a1 < (l0_1.length : Int) then (if a1 < (l0_3.length : Int) then (if a1 < (l0_2.length : Int) then (if a1 < (l0_4.length : Int) then (some (wrap64 ((wrap64 ((rd l0_1 a1) + (wrap64 ((wrap64 ((rd l0_3 a1) - 1)) * (rd l0_2 a1))))) + (rd l0_4 a1)))) else (none)) else (none)) else (none)) else (none)) else (none)
theorem spec_l06End.calls (a0_0 : Int) (A0_1 : Option Addr) (c0_1 : Nat) (l0_1 : List Int) (A0_2 : Option Addr) (c0_2 : Nat) (l0_2 : List Int) (A0_3 : Option Addr) (c0_3 : Nat) (l0_3 : List Int) (A0_4 : Option Addr) (c0_4 : Nat) (l0_4 : List Int) (A0_5 : Option Addr) (c0_5 : Nat) (l0_5 : List (S68)) (a1 : Int) (r : Int) (w : World) (C0_1 : Cm (Kd.int .i64) w A0_1 c0_1 l0_1) (C0_2 : Cm (Kd.int .i64) w A0_2 c0_2 l0_2) (C0_3 : Cm (Kd.int .i64) w A0_3 c0_3 l0_3) (C0_4 : Cm (Kd.int .i64) w A0_4 c0_4 l0_4) (C0_5 : Cm k68 w A0_5 c0_5 l0_5) (h : spec_l06End.f a0_0 l0_1 l0_2 l0_3 l0_4 l0_5 a1 = some r) :
 Calls Try.prog 54 #[.agg #[.int .i64 a0_0, .slice A0_1 l0_1.length c0_1, .slice A0_2 l0_2.length c0_2, .slice A0_3 l0_3.length c0_3, .slice A0_4 l0_4.length c0_4, .slice A0_5 l0_5.length c0_5], .int .i64 a1] w fun e w' => e = .returned (.int .i64 r) ∧ Below w.heap.size w w' := by
 have hu26 := Try.underlying26
 have HB := yD (Below.refl w.heap.size w)
 unfold spec_l06End.f at h
 have H := h
 clear h
 replace ⟨c3b0, H⟩ := sE H
 replace ⟨c4b0, H⟩ := sE H
 replace ⟨c5b0, H⟩ := sE H
 replace ⟨c6b0, H⟩ := sE H
 replace ⟨c7b0, H⟩ := sE H
 obtain rfl := sJ H; go_enter Try.func54, Try.ntmps54
 go_wp2_with (first | (refine gD 2 ?_; refine bF (N := 2) (cs := #[.int .i64 a0_0, .slice A0_1 l0_1.length c0_1, .slice A0_2 l0_2.length c0_2, .slice A0_3 l0_3.length c0_3, .slice A0_4 l0_4.length c0_4, .slice A0_5 l0_5.length c0_5]) (t := 26) HB ?_; intro gb490 w8 BK490 GW490 HB; have := cf6_ BK490.out; have p491 : 0 ≤ (a1 : Int) := zP (by assumption); have q491 : a1 < (l0_1.length : Int) := zP (by assumption); obtain ⟨ad491, e491, hx491_0⟩ := Kd.aX C0_1.r a1 p491 q491; cases e491; replace hx491_0 := kD HB hx491_0; replace p491 := eq_true p491; replace q491 := eq_true q491; have p492 : 0 ≤ (a1 : Int) := zP (by assumption); have q492 : a1 < (l0_3.length : Int) := zP (by assumption); obtain ⟨ad492, e492, hx492_0⟩ := Kd.aX C0_3.r a1 p492 q492; cases e492; replace hx492_0 := kD HB hx492_0; replace p492 := eq_true p492; replace q492 := eq_true q492; have p493 : 0 ≤ (a1 : Int) := zP (by assumption); have q493 : a1 < (l0_2.length : Int) := zP (by assumption); obtain ⟨ad493, e493, hx493_0⟩ := Kd.aX C0_2.r a1 p493 q493; cases e493; replace hx493_0 := kD HB hx493_0; replace p493 := eq_true p493; replace q493 := eq_true q493; have p494 : 0 ≤ (a1 : Int) := zP (by assumption); have q494 : a1 < (l0_4.length : Int) := zP (by assumption); obtain ⟨ad494, e494, hx494_0⟩ := Kd.aX C0_4.r a1 p494 q494; cases e494; replace hx494_0 := kD HB hx494_0; replace p494 := eq_true p494; replace q494 := eq_true q494))
 repeat (go_quiet (first | (refine gD 2 ?_; refine bF (N := 2) (cs := #[.int .i64 a0_0, .slice A0_1 l0_1.length c0_1, .slice A0_2 l0_2.length c0_2, .slice A0_3 l0_3.length c0_3, .slice A0_4 l0_4.length c0_4, .slice A0_5 l0_5.length c0_5]) (t := 26) HB ?_; intro gb490 w8 BK490 GW490 HB; have := cf6_ BK490.out; have p491 : 0 ≤ (a1 : Int) := zP (by assumption); have q491 : a1 < (l0_1.length : Int) := zP (by assumption); obtain ⟨ad491, e491, hx491_0⟩ := Kd.aX C0_1.r a1 p491 q491; cases e491; replace hx491_0 := kD HB hx491_0; replace p491 := eq_true p491; replace q491 := eq_true q491; have p492 : 0 ≤ (a1 : Int) := zP (by assumption); have q492 : a1 < (l0_3.length : Int) := zP (by assumption); obtain ⟨ad492, e492, hx492_0⟩ := Kd.aX C0_3.r a1 p492 q492; cases e492; replace hx492_0 := kD HB hx492_0; replace p492 := eq_true p492; replace q492 := eq_true q492; have p493 : 0 ≤ (a1 : Int) := zP (by assumption); have q493 : a1 < (l0_2.length : Int) := zP (by assumption); obtain ⟨ad493, e493, hx493_0⟩ := Kd.aX C0_2.r a1 p493 q493; cases e493; replace hx493_0 := kD HB hx493_0; replace p493 := eq_true p493; replace q493 := eq_true q493; have p494 : 0 ≤ (a1 : Int) := zP (by assumption); have q494 : a1 < (l0_4.length : Int) := zP (by assumption); obtain ⟨ad494, e494, hx494_0⟩ := Kd.aX C0_4.r a1 p494 q494; cases e494; replace hx494_0 := kD HB hx494_0; replace p494 := eq_true p494; replace q494 := eq_true q494)); try go_wp2_with (first | (refine gD 2 ?_; refine bF (N := 2) (cs := #[.int .i64 a0_0, .slice A0_1 l0_1.length c0_1, .slice A0_2 l0_2.length c0_2, .slice A0_3 l0_3.length c0_3, .slice A0_4 l0_4.length c0_4, .slice A0_5 l0_5.length c0_5]) (t := 26) HB ?_; intro gb490 w8 BK490 GW490 HB; have := cf6_ BK490.out; have p491 : 0 ≤ (a1 : Int) := zP (by assumption); have q491 : a1 < (l0_1.length : Int) := zP (by assumption); obtain ⟨ad491, e491, hx491_0⟩ := Kd.aX C0_1.r a1 p491 q491; cases e491; replace hx491_0 := kD HB hx491_0; replace p491 := eq_true p491; replace q491 := eq_true q491; have p492 : 0 ≤ (a1 : Int) := zP (by assumption); have q492 : a1 < (l0_3.length : Int) := zP (by assumption); obtain ⟨ad492, e492, hx492_0⟩ := Kd.aX C0_3.r a1 p492 q492; cases e492; replace hx492_0 := kD HB hx492_0; replace p492 := eq_true p492; replace q492 := eq_true q492; have p493 : 0 ≤ (a1 : Int) := zP (by assumption); have q493 : a1 < (l0_2.length : Int) := zP (by assumption); obtain ⟨ad493, e493, hx493_0⟩ := Kd.aX C0_2.r a1 p493 q493; cases e493; replace hx493_0 := kD HB hx493_0; replace p493 := eq_true p493; replace q493 := eq_true q493; have p494 : 0 ≤ (a1 : Int) := zP (by assumption); have q494 : a1 < (l0_4.length : Int) := zP (by assumption); obtain ⟨ad494, e494, hx494_0⟩ := Kd.aX C0_4.r a1 p494 q494; cases e494; replace hx494_0 := kD HB hx494_0; replace p494 := eq_true p494; replace q494 := eq_true q494)))
 go_ret
 exact ⟨kE, kR1 HB⟩
mutual
def bI.j0 : Nat → Int → Bool → Int → List Int → List Int → List Int → List Int → List (S68) → Option (Bool)
 | 0, _, _, _, _, _, _, _, _ => none
 | k + 1, x3, x36, x496000, x496001, x496002, x496003, x496004, x496005 => if x36 = true then (some false) else (bI.l0 k x3 0 x496000 x496001 x496002 x496003 x496004 x496005)
def bI.l0 : Nat → Int → Int → Int → List Int → List Int → List Int → List Int → List (S68) → Option (Bool)
 | 0, _, _, _, _, _, _, _, _ => none
 | k + 1, x3, x4, x496000, x496001, x496002, x496003, x496004, x496005 => if x4 < x3 then (if 0 ≤ x4 then (if x4 < (x496001.length : Int) then ((bO.f (rd x496001 x4) 0 40).bind fun t497 => (if t497 = true then (if x4 < (x496003.length : Int) then ((bO.f (rd x496003 x4) 1 40).bind fun t499 => (if t499 = true then (if x4 < (x496004.length : Int) then ((bO.f (rd x496004 x4) 1 40).bind fun t501 => (if t501 = true then (if x4 < (x496002.length : Int) then ((bO.f (rd x496002 x4) (rd x496004 x4) 40).bind fun t504 => (if t504 = true then ((spec_l06End.f x496000 x496001 x496002 x496003 x496004 x496005 x4).bind fun t505 => (if t505 > 40 then (some false) else (bI.l0 k x3 (wrap64 (x4 + 1)) x496000 x496001 x496002 x496003 x496004 x496005))) else (some false))) else (none)) else (some false))) else (none)) else (some false))) else (none)) else (some false))) else (none)) else (none)) else (some true)
end
def bI.f (k : Nat) (a0_0 : Int) (l0_1 l0_2 : List Int) (l0_3 l0_4 : List Int) (l0_5 : List (S68)) : Option (Bool) := if (l0_1.length : Int) > 3 then (bI.j0 k (l0_1.length : Int) true a0_0 l0_1 l0_2 l0_3 l0_4 l0_5) else (if (l0_2.length : Int) = (l0_1.length : Int) then (if (l0_3.length : Int) = (l0_1.length : Int) then (if (l0_4.length : Int) = (l0_1.length : Int) then (bI.j0 k (l0_1.length : Int) (decide ((l0_5.length : Int) > 0)) a0_0 l0_1 l0_2 l0_3 l0_4 l0_5) else (bI.j0 k (l0_1.length : Int) true a0_0 l0_1 l0_2 l0_3 l0_4 l0_5)) else (bI.j0 k (l0_1.length : Int) true a0_0 l0_1 l0_2 l0_3 l0_4 l0_5)) else (bI.j0 k (l0_1.length : Int) true a0_0 l0_1 l0_2 l0_3 l0_4 l0_5))
def bI.T7 : Bool × List (List Nat × List Nat) := (true, [([], []), ([0], [0]), ([], []), ([1, 2], [1, 2]), ([3], [3]), ([4], [4]), ([5], [5]), ([6, 5], [6]), ([7], [7]), ([8, 7], [7, 8]), ([7], [7]), ([9, 10, 7], [7, 9, 10]), ([11, 7], [7, 11]), ([12, 7, 7], [7, 12]), ([13, 7], [7, 13]), ([7, 14], [7, 14]), ([15, 13], [15]), ([16], [16]), ([17, 16], [16, 17]), ([16], [16]), ([18, 19, 16], [16, 18, 19]), ([20, 16], [16, 20]), ([21, 16, 16], [16, 21]), ([22, 16], [16, 22]), ([16, 23], [16, 23]), ([24, 22], [24]), ([25], [25]), ([26, 25], [25, 26]), ([25], [25]), ([27, 28, 25], [25, 27, 28]), ([29, 25], [25, 29]), ([25], [25]), ([31, 25], [25, 31]), ([25], [25]), ([32, 33, 25], [25, 32, 33]), ([34, 25], [25, 34]), ([30, 35, 25, 25], [25, 30, 35]), ([36, 25], [25, 36]), ([25, 37], [25, 37]), ([38, 36], [38]), ([39], [39]), ([39], [39]), ([40, 41, 39, 39], [39, 40, 41]), ([42, 39], [39, 42]), ([39, 43], [39, 43])])
def bI.B7 : List Nat := [0, 1, 0, 7, 15, 31, 63, 127, 255, 511, 255, 2047, 4095, 8191, 16383, 32767, 65535, 131071, 262143, 131071, 1048575, 2097151, 4194303, 8388607, 16777215, 33554431, 67108863, 134217727, 67108863, 536870911, 1073741823, 67108863, 2214592511, 67108863, 15099494399, 32279363583, 68719476735, 137438953471, 274877906943, 549755813887, 1099511627775, 1099511627775, 4398046511103, 8796093022207, 17592186044415]
theorem bI.tab7 : rtab .any (opsOf Try.f80 7) = bI.T7 := by kernel_rfl
theorem bI.bits7 : waitsOk bI.T7.2 bI.B7 = true := by kernel_rfl
theorem bI.calls (k : Nat) (a0_0 : Int) (A0_1 : Option Addr) (c0_1 : Nat) (l0_1 : List Int) (A0_2 : Option Addr) (c0_2 : Nat) (l0_2 : List Int) (A0_3 : Option Addr) (c0_3 : Nat) (l0_3 : List Int) (A0_4 : Option Addr) (c0_4 : Nat) (l0_4 : List Int) (A0_5 : Option Addr) (c0_5 : Nat) (l0_5 : List (S68)) (r : Bool) (w : World) (C0_1 : Cm (Kd.int .i64) w A0_1 c0_1 l0_1) (C0_2 : Cm (Kd.int .i64) w A0_2 c0_2 l0_2) (C0_3 : Cm (Kd.int .i64) w A0_3 c0_3 l0_3) (C0_4 : Cm (Kd.int .i64) w A0_4 c0_4 l0_4) (C0_5 : Cm k68 w A0_5 c0_5 l0_5) (h : bI.f k a0_0 l0_1 l0_2 l0_3 l0_4 l0_5 = some r) :
 Calls Try.prog 80 #[.agg #[.int .i64 a0_0, .slice A0_1 l0_1.length c0_1, .slice A0_2 l0_2.length c0_2, .slice A0_3 l0_3.length c0_3, .slice A0_4 l0_4.length c0_4, .slice A0_5 l0_5.length c0_5]] w fun e w' => e = .returned (.bool r) ∧ Below w.heap.size w w' := by
 have hu26 := Try.underlying26
 have HB := yD (Below.refl w.heap.size w)
 unfold bI.f at h
 have H := h
 clear h
 have HC2 := yD H
 clear H; go_enter Try.func80, Try.ntmps80
 go_upto_region 2 with (first | (refine gD 1 ?_; (try (refine gate_guard (by rfl) ?_; dsimp only)); refine bF (N := 1) (cs := #[.int .i64 a0_0, .slice A0_1 l0_1.length c0_1, .slice A0_2 l0_2.length c0_2, .slice A0_3 l0_3.length c0_3, .slice A0_4 l0_4.length c0_4, .slice A0_5 l0_5.length c0_5]) (t := 26) HB ?_; intro gb495 w3 BK495 GW495 HB; have := cf6_ BK495.out))
 (try simp only [Act.put, zH, zI, zJ])
 go_cut [36] (fun v36 wc => ∃ (kq : Nat) (x36_1 : Bool), v36 = .bool x36_1 ∧ aC (bI.j0 kq (l0_1.length : Int) x36_1 a0_0 l0_1 l0_2 l0_3 l0_4 l0_5 = some r) ∧ aC (kq ≤ k) ∧ aC (wc.heap[gb495]? = some (.cells #[.int .i64 a0_0, (.slice A0_1 l0_1.length c0_1), (.slice A0_2 l0_2.length c0_2), (.slice A0_3 l0_3.length c0_3), (.slice A0_4 l0_4.length c0_4), (.slice A0_5 l0_5.length c0_5)] 26 (0, 0))) ∧ aC (Below w.heap.size w wc))
 case first =>
  have H := HC2.out; clear HC2
  replace H := sB H; rcases H with ⟨c5, H⟩ | ⟨c5, H⟩
  ·
   have c5b0 : decide (3 < (l0_1.length : Int)) = true := zR c5
   have c5b1 : decide (3 < l0_1.length) = true := zR (by omega)
   clear c5
   (first | rw [c5b0] | (simp only [i64_w, i32_w]; rw [c5b0]) | (simp only [bne] at c5b0; rw [c5b0]) | skip)
   have H' := yD H
   clear H
   go_wp2
   go_meet
   case rel => exact ⟨_, (true), kF, H', ⟨by first | omega | exact Nat.le_refl _⟩, ⟨kM BK495⟩, ⟨kR1 HB⟩⟩
  have c5b0 : decide (3 < (l0_1.length : Int)) = false := zS c5
  have c5b1 : decide (3 < l0_1.length) = false := zS (by omega)
  clear c5
  (first | rw [c5b0] | (simp only [i64_w, i32_w]; rw [c5b0]) | (simp only [bne] at c5b0; rw [c5b0]) | skip)
  replace H := sP H; rcases H with ⟨c6, c6b0, c6b1, H⟩ | ⟨c6, c6b0, c6b1, H⟩
  ·
   have c6b2 : (l0_2.length == l0_1.length) = false := by first | simpa using c6 | (simp at c6 ⊢; omega)
   have H' := yD H
   clear H
   have := cf6_ BK495.out
   go_wp2
   go_meet
   case rel => exact ⟨_, (true), kF, H', ⟨by first | omega | exact Nat.le_refl _⟩, ⟨kM BK495⟩, ⟨kR1 HB⟩⟩
  have c6b2 : (l0_2.length == l0_1.length) = true := by first | simpa using c6 | (simp at c6 ⊢; omega)
  clear c6
  replace H := sP H; rcases H with ⟨c7, c7b0, c7b1, H⟩ | ⟨c7, c7b0, c7b1, H⟩
  ·
   have c7b2 : (l0_3.length == l0_1.length) = false := by first | simpa using c7 | (simp at c7 ⊢; omega)
   have H' := yD H
   clear H
   have := cf6_ BK495.out
   go_wp2
   go_meet
   case rel => exact ⟨_, (true), kF, H', ⟨by first | omega | exact Nat.le_refl _⟩, ⟨kM BK495⟩, ⟨kR1 HB⟩⟩
  have c7b2 : (l0_3.length == l0_1.length) = true := by first | simpa using c7 | (simp at c7 ⊢; omega)
  clear c7
  replace H := sP H; rcases H with ⟨c8, c8b0, c8b1, H⟩ | ⟨c8, c8b0, c8b1, H⟩
  ·
   have c8b2 : (l0_4.length == l0_1.length) = false := by first | simpa using c8 | (simp at c8 ⊢; omega)
   have H' := yD H
   clear H
   have := cf6_ BK495.out
   go_wp2
   go_meet
   case rel => exact ⟨_, (true), kF, H', ⟨by first | omega | exact Nat.le_refl _⟩, ⟨kM BK495⟩, ⟨kR1 HB⟩⟩
  have c8b2 : (l0_4.length == l0_1.length) = true := by first | simpa using c8 | (simp at c8 ⊢; omega)
  clear c8
  have H' := yD H
  clear H
  have := cf6_ BK495.out
  go_wp2
  go_meet
  case rel => exact ⟨_, (decide ((l0_5.length : Int) > 0)), kF, H', ⟨by first | omega | exact Nat.le_refl _⟩, ⟨kM BK495⟩, ⟨kR1 HB⟩⟩
 case rest =>
  clear HC2
  obtain ⟨kq, x36_1, rfl, HA, HJ1, BK495, HB⟩ := hcut
  cases kq with
  | zero => exact absurd HA.out (by simp [bI.j0])
  | succ kj1 =>
   have H := HA.out; clear HA
   simp only [bI.j0] at H
   replace H := sT H; rcases H with ⟨rfl, H⟩ | ⟨rfl, H⟩
   · obtain rfl := sJ H
     go_wp2
     go_ret
     exact ⟨kE, kR1 HB⟩
   have H' := yD H
   clear H
   go_wp2
   go_loopg [4] kj1 (fun kq v4 w' => ∃ (x4_2 : Int), v4 = .int .i64 x4_2 ∧ aC (bI.l0 kq (l0_1.length : Int) x4_2 a0_0 l0_1 l0_2 l0_3 l0_4 l0_5 = some r) ∧ aC (kq ≤ kj1) ∧ aC (w'.heap[gb495]? = some (.cells #[.int .i64 a0_0, (.slice A0_1 l0_1.length c0_1), (.slice A0_2 l0_2.length c0_2), (.slice A0_3 l0_3.length c0_3), (.slice A0_4 l0_4.length c0_4), (.slice A0_5 l0_5.length c0_5)] 26 (0, 0))) ∧ aC (Below w.heap.size w w'))
   case atStart => exact ⟨(0), kF, H', ⟨Nat.le_refl _⟩, ⟨kM BK495⟩, ⟨kR1 HB⟩⟩
   case round =>
    clear H'
    obtain ⟨x4_2, rfl, HA, HK2, BK495, HB⟩ := hrel
    cases gk with
    | zero => exact absurd HA.out (by simp [bI.l0])
    | succ k2 =>
     have H := HA.out; clear HA
     simp only [bI.l0] at H
     replace H := sG H; rcases H with ⟨c14b0, H⟩ | ⟨c14b0, H⟩
     · obtain rfl := sJ H
       go_wp2
       go_ret
       exact ⟨kE, kR1 HB⟩
     replace ⟨c15b0, H⟩ := sE H
     replace ⟨c16b0, H⟩ := sE H
     replace ⟨t497, A17, H⟩ := sV H
     replace H := sS H; rcases H with ⟨rfl, H⟩ | ⟨rfl, H⟩
     ·
      obtain rfl := sJ H
      try go_wp2
      replace BK495 := yD (yO BK495.out); replace HB := yD (yP HB.out)
      obtain ⟨p496, q496, ad496, e496, hx496_0⟩ := sI (Kd.aX C0_1.r x4_2)
      have hw496_0 := hx496_0; cases e496
      replace hx496_0 := kD HB hx496_0
      refine s0 (m := 45) (S := fun w' => cl w' gb495 0 (.int .i64 a0_0) ∧ cl w' gb495 1 (.slice (some ad496) l0_1.length c0_1) ∧ cl w' gb495 2 (.slice A0_2 l0_2.length c0_2) ∧ cl w' gb495 3 (.slice A0_3 l0_3.length c0_3) ∧ cl w' gb495 4 (.slice A0_4 l0_4.length c0_4) ∧ cl w' gb495 5 (.slice A0_5 l0_5.length c0_5) ∧ w'.cell? (ad496.add (x4_2).toNat) = some (.int .i64 (rd l0_1 x4_2))) bI.tab7 bI.bits7 (ca6_ BK495.out ((kC HB hw496_0))) fun hHeld HT_ HW_ => ?_
      generalize wr.drew = w37 at BK495 HB hx496_0 hHeld ⊢
      refine qa 45 0 1 ?_; refine qa 45 2 5 ?_; refine qc 45 1 7 hHeld ?_; refine qa 45 3 15 ?_; refine qc 45 4 31 hHeld ?_
      refine qo 45 5 63 (some 47) fun K hK => ?_
      refine qg Try.func29 _ (dm (bO.calls (rd l0_1 x4_2) 0 40 false _ A17.out) fun nd => ?_)
      refine hK.out _ _ (ca6_ BK495.out ((kC HB hw496_0))) (fun hHeld => ?_)
      clear hK K
      refine nZ 47 ?_
      refine qa 45 6 127 ?_; refine qa 45 7 255 ?_; refine qb 45 8 511 ?_; refine qb 45 9 1023 ?_; refine qb 45 10 2047 ?_; refine qb 45 11 4095 ?_; refine qb 45 12 8191 ?_; refine qb 45 13 16383 ?_; refine qb 45 14 32767 ?_; refine qa 45 15 65535 ?_; refine qa 45 16 131071 ?_; refine qb 45 17 262143 ?_; refine qb 45 18 524287 ?_; refine qb 45 19 1048575 ?_; refine qb 45 20 2097151 ?_; refine qb 45 21 4194303 ?_; refine qb 45 22 8388607 ?_; refine qb 45 23 16777215 ?_; refine qa 45 24 33554431 ?_; refine qa 45 25 67108863 ?_; refine qb 45 26 134217727 ?_; refine qb 45 27 268435455 ?_; refine qb 45 28 536870911 ?_; refine qb 45 29 1073741823 ?_; refine qb 45 30 2147483647 ?_; refine qb 45 31 4294967295 ?_; refine qb 45 32 8589934591 ?_; refine qb 45 33 17179869183 ?_; refine qb 45 34 34359738367 ?_; refine qb 45 35 68719476735 ?_; refine qb 45 36 137438953471 ?_; refine qb 45 37 274877906943 ?_; refine qa 45 38 549755813887 ?_; refine qa 45 39 1099511627775 ?_; refine qb 45 40 2199023255551 ?_; refine qb 45 41 4398046511103 ?_; refine qb 45 42 8796093022207 ?_; refine qb 45 43 17592186044415 ?_; refine qa 45 44 35184372088831 ?_
      refine qd ?_
      try go_wp2
      go_ret
      exact ⟨kE, kR1 HB⟩
     replace ⟨c19b0, H⟩ := sE H
     replace ⟨t499, A20, H⟩ := sV H
     replace H := sS H; rcases H with ⟨rfl, H⟩ | ⟨rfl, H⟩
     ·
      obtain rfl := sJ H
      try go_wp2
      replace BK495 := yD (yO BK495.out); replace HB := yD (yP HB.out)
      obtain ⟨p496, q496, ad496, e496, hx496_0⟩ := sI (Kd.aX C0_1.r x4_2)
      have hw496_0 := hx496_0; cases e496
      replace hx496_0 := kD HB hx496_0
      obtain ⟨p498, q498, ad498, e498, hx498_0⟩ := sI (Kd.aX C0_3.r x4_2)
      have hw498_0 := hx498_0; cases e498
      replace hx498_0 := kD HB hx498_0
      refine s0 (m := 45) (S := fun w' => cl w' gb495 0 (.int .i64 a0_0) ∧ cl w' gb495 1 (.slice (some ad496) l0_1.length c0_1) ∧ cl w' gb495 2 (.slice A0_2 l0_2.length c0_2) ∧ cl w' gb495 3 (.slice (some ad498) l0_3.length c0_3) ∧ cl w' gb495 4 (.slice A0_4 l0_4.length c0_4) ∧ cl w' gb495 5 (.slice A0_5 l0_5.length c0_5) ∧ w'.cell? (ad496.add (x4_2).toNat) = some (.int .i64 (rd l0_1 x4_2)) ∧ w'.cell? (ad498.add (x4_2).toNat) = some (.int .i64 (rd l0_3 x4_2))) bI.tab7 bI.bits7 (ca6_ BK495.out ⟨(kC HB hw496_0), (kC HB hw498_0)⟩) fun hHeld HT_ HW_ => ?_
      generalize wr.drew = w36 at BK495 HB hx496_0 hx498_0 hHeld ⊢
      refine qa 45 0 1 ?_; refine qa 45 2 5 ?_; refine qc 45 1 7 hHeld ?_; refine qa 45 3 15 ?_; refine qc 45 4 31 hHeld ?_
      refine qo 45 5 63 (some 47) fun K hK => ?_
      refine qg Try.func29 _ (dm (bO.calls (rd l0_1 x4_2) 0 40 true _ A17.out) fun nd => ?_)
      refine hK.out _ _ (ca6_ BK495.out ⟨(kC HB hw496_0), (kC HB hw498_0)⟩) (fun hHeld => ?_)
      clear hK K
      refine nZ 47 ?_
      refine qa 45 6 127 ?_; refine qa 45 7 255 ?_; refine qa 45 8 511 ?_; refine qa 45 10 1535 ?_; refine qc 45 9 2047 hHeld ?_; refine qa 45 11 4095 ?_; refine qc 45 12 8191 hHeld ?_
      refine qo 45 13 16383 (some 55) fun K hK => ?_
      refine qg Try.func29 _ (dm (bO.calls (rd l0_3 x4_2) 1 40 false _ A20.out) fun nd => ?_)
      refine hK.out _ _ (ca6_ BK495.out ⟨(kC HB hw496_0), (kC HB hw498_0)⟩) (fun hHeld => ?_)
      clear hK K
      refine nZ 55 ?_
      refine qa 45 14 32767 ?_; refine qa 45 15 65535 ?_; refine qa 45 16 131071 ?_; refine qb 45 17 262143 ?_; refine qb 45 18 524287 ?_; refine qb 45 19 1048575 ?_; refine qb 45 20 2097151 ?_; refine qb 45 21 4194303 ?_; refine qb 45 22 8388607 ?_; refine qb 45 23 16777215 ?_; refine qa 45 24 33554431 ?_; refine qa 45 25 67108863 ?_; refine qb 45 26 134217727 ?_; refine qb 45 27 268435455 ?_; refine qb 45 28 536870911 ?_; refine qb 45 29 1073741823 ?_; refine qb 45 30 2147483647 ?_; refine qb 45 31 4294967295 ?_; refine qb 45 32 8589934591 ?_; refine qb 45 33 17179869183 ?_; refine qb 45 34 34359738367 ?_; refine qb 45 35 68719476735 ?_; refine qb 45 36 137438953471 ?_; refine qb 45 37 274877906943 ?_; refine qa 45 38 549755813887 ?_; refine qa 45 39 1099511627775 ?_; refine qb 45 40 2199023255551 ?_; refine qb 45 41 4398046511103 ?_; refine qb 45 42 8796093022207 ?_; refine qb 45 43 17592186044415 ?_; refine qa 45 44 35184372088831 ?_
      refine qd ?_
      try go_wp2
      go_ret
      exact ⟨kE, kR1 HB⟩
     replace ⟨c22b0, H⟩ := sE H
     replace ⟨t501, A23, H⟩ := sV H
     replace H := sS H; rcases H with ⟨rfl, H⟩ | ⟨rfl, H⟩
     ·
      obtain rfl := sJ H
      try go_wp2
      replace BK495 := yD (yO BK495.out); replace HB := yD (yP HB.out)
      obtain ⟨p496, q496, ad496, e496, hx496_0⟩ := sI (Kd.aX C0_1.r x4_2)
      have hw496_0 := hx496_0; cases e496
      replace hx496_0 := kD HB hx496_0
      obtain ⟨p498, q498, ad498, e498, hx498_0⟩ := sI (Kd.aX C0_3.r x4_2)
      have hw498_0 := hx498_0; cases e498
      replace hx498_0 := kD HB hx498_0
      obtain ⟨p500, q500, ad500, e500, hx500_0⟩ := sI (Kd.aX C0_4.r x4_2)
      have hw500_0 := hx500_0; cases e500
      replace hx500_0 := kD HB hx500_0
      refine s0 (m := 45) (S := fun w' => cl w' gb495 0 (.int .i64 a0_0) ∧ cl w' gb495 1 (.slice (some ad496) l0_1.length c0_1) ∧ cl w' gb495 2 (.slice A0_2 l0_2.length c0_2) ∧ cl w' gb495 3 (.slice (some ad498) l0_3.length c0_3) ∧ cl w' gb495 4 (.slice (some ad500) l0_4.length c0_4) ∧ cl w' gb495 5 (.slice A0_5 l0_5.length c0_5) ∧ w'.cell? (ad496.add (x4_2).toNat) = some (.int .i64 (rd l0_1 x4_2)) ∧ w'.cell? (ad498.add (x4_2).toNat) = some (.int .i64 (rd l0_3 x4_2)) ∧ w'.cell? (ad500.add (x4_2).toNat) = some (.int .i64 (rd l0_4 x4_2))) bI.tab7 bI.bits7 (ca6_ BK495.out ⟨(kC HB hw496_0), (kC HB hw498_0), (kC HB hw500_0)⟩) fun hHeld HT_ HW_ => ?_
      generalize wr.drew = w35 at BK495 HB hx496_0 hx498_0 hx500_0 hHeld ⊢
      refine qa 45 0 1 ?_; refine qa 45 2 5 ?_; refine qc 45 1 7 hHeld ?_; refine qa 45 3 15 ?_; refine qc 45 4 31 hHeld ?_
      refine qo 45 5 63 (some 47) fun K hK => ?_
      refine qg Try.func29 _ (dm (bO.calls (rd l0_1 x4_2) 0 40 true _ A17.out) fun nd => ?_)
      refine hK.out _ _ (ca6_ BK495.out ⟨(kC HB hw496_0), (kC HB hw498_0), (kC HB hw500_0)⟩) (fun hHeld => ?_)
      clear hK K
      refine nZ 47 ?_
      refine qa 45 6 127 ?_; refine qa 45 7 255 ?_; refine qa 45 8 511 ?_; refine qa 45 10 1535 ?_; refine qc 45 9 2047 hHeld ?_; refine qa 45 11 4095 ?_; refine qc 45 12 8191 hHeld ?_
      refine qo 45 13 16383 (some 55) fun K hK => ?_
      refine qg Try.func29 _ (dm (bO.calls (rd l0_3 x4_2) 1 40 true _ A20.out) fun nd => ?_)
      refine hK.out _ _ (ca6_ BK495.out ⟨(kC HB hw496_0), (kC HB hw498_0), (kC HB hw500_0)⟩) (fun hHeld => ?_)
      clear hK K
      refine nZ 55 ?_
      refine qa 45 14 32767 ?_; refine qa 45 15 65535 ?_; refine qa 45 16 131071 ?_; refine qa 45 17 262143 ?_; refine qa 45 19 786431 ?_; refine qc 45 18 1048575 hHeld ?_; refine qa 45 20 2097151 ?_; refine qc 45 21 4194303 hHeld ?_
      refine qo 45 22 8388607 (some 64) fun K hK => ?_
      refine qg Try.func29 _ (dm (bO.calls (rd l0_4 x4_2) 1 40 false _ A23.out) fun nd => ?_)
      refine hK.out _ _ (ca6_ BK495.out ⟨(kC HB hw496_0), (kC HB hw498_0), (kC HB hw500_0)⟩) (fun hHeld => ?_)
      clear hK K
      refine nZ 64 ?_
      refine qa 45 23 16777215 ?_; refine qa 45 24 33554431 ?_; refine qa 45 25 67108863 ?_; refine qb 45 26 134217727 ?_; refine qb 45 27 268435455 ?_; refine qb 45 28 536870911 ?_; refine qb 45 29 1073741823 ?_; refine qb 45 30 2147483647 ?_; refine qb 45 31 4294967295 ?_; refine qb 45 32 8589934591 ?_; refine qb 45 33 17179869183 ?_; refine qb 45 34 34359738367 ?_; refine qb 45 35 68719476735 ?_; refine qb 45 36 137438953471 ?_; refine qb 45 37 274877906943 ?_; refine qa 45 38 549755813887 ?_; refine qa 45 39 1099511627775 ?_; refine qb 45 40 2199023255551 ?_; refine qb 45 41 4398046511103 ?_; refine qb 45 42 8796093022207 ?_; refine qb 45 43 17592186044415 ?_; refine qa 45 44 35184372088831 ?_
      refine qd ?_
      try go_wp2
      go_ret
      exact ⟨kE, kR1 HB⟩
     replace ⟨c25b0, H⟩ := sE H
     replace ⟨t504, A26, H⟩ := sV H
     replace H := sS H; rcases H with ⟨rfl, H⟩ | ⟨rfl, H⟩
     ·
      obtain rfl := sJ H
      try go_wp2
      replace BK495 := yD (yO BK495.out); replace HB := yD (yP HB.out)
      obtain ⟨p496, q496, ad496, e496, hx496_0⟩ := sI (Kd.aX C0_1.r x4_2)
      have hw496_0 := hx496_0; cases e496
      replace hx496_0 := kD HB hx496_0
      obtain ⟨p498, q498, ad498, e498, hx498_0⟩ := sI (Kd.aX C0_3.r x4_2)
      have hw498_0 := hx498_0; cases e498
      replace hx498_0 := kD HB hx498_0
      obtain ⟨p500, q500, ad500, e500, hx500_0⟩ := sI (Kd.aX C0_4.r x4_2)
      have hw500_0 := hx500_0; cases e500
      replace hx500_0 := kD HB hx500_0
      obtain ⟨p502, q502, ad502, e502, hx502_0⟩ := sI (Kd.aX C0_2.r x4_2)
      have hw502_0 := hx502_0; cases e502
      replace hx502_0 := kD HB hx502_0
      obtain ⟨p503, q503, ad503, e503, hx503_0⟩ := sI (Kd.aX C0_4.r x4_2)
      have hw503_0 := hx503_0
      obtain rfl : ad500 = ad503 := (by injection e503)
      replace hx503_0 := kD HB hx503_0
      refine s0 (m := 45) (S := fun w' => cl w' gb495 0 (.int .i64 a0_0) ∧ cl w' gb495 1 (.slice (some ad496) l0_1.length c0_1) ∧ cl w' gb495 2 (.slice (some ad502) l0_2.length c0_2) ∧ cl w' gb495 3 (.slice (some ad498) l0_3.length c0_3) ∧ cl w' gb495 4 (.slice (some ad500) l0_4.length c0_4) ∧ cl w' gb495 5 (.slice A0_5 l0_5.length c0_5) ∧ w'.cell? (ad496.add (x4_2).toNat) = some (.int .i64 (rd l0_1 x4_2)) ∧ w'.cell? (ad498.add (x4_2).toNat) = some (.int .i64 (rd l0_3 x4_2)) ∧ w'.cell? (ad500.add (x4_2).toNat) = some (.int .i64 (rd l0_4 x4_2)) ∧ w'.cell? (ad502.add (x4_2).toNat) = some (.int .i64 (rd l0_2 x4_2)) ∧ w'.cell? (ad500.add (x4_2).toNat) = some (.int .i64 (rd l0_4 x4_2))) bI.tab7 bI.bits7 (ca6_ BK495.out ⟨(kC HB hw496_0), (kC HB hw498_0), (kC HB hw500_0), (kC HB hw502_0), (kC HB hw503_0)⟩) fun hHeld HT_ HW_ => ?_
      generalize wr.drew = w34 at BK495 HB hx496_0 hx498_0 hx500_0 hx502_0 hx503_0 hHeld ⊢
      refine qa 45 0 1 ?_; refine qa 45 2 5 ?_; refine qc 45 1 7 hHeld ?_; refine qa 45 3 15 ?_; refine qc 45 4 31 hHeld ?_
      refine qo 45 5 63 (some 47) fun K hK => ?_
      refine qg Try.func29 _ (dm (bO.calls (rd l0_1 x4_2) 0 40 true _ A17.out) fun nd => ?_)
      refine hK.out _ _ (ca6_ BK495.out ⟨(kC HB hw496_0), (kC HB hw498_0), (kC HB hw500_0), (kC HB hw502_0), (kC HB hw503_0)⟩) (fun hHeld => ?_)
      clear hK K
      refine nZ 47 ?_
      refine qa 45 6 127 ?_; refine qa 45 7 255 ?_; refine qa 45 8 511 ?_; refine qa 45 10 1535 ?_; refine qc 45 9 2047 hHeld ?_; refine qa 45 11 4095 ?_; refine qc 45 12 8191 hHeld ?_
      refine qo 45 13 16383 (some 55) fun K hK => ?_
      refine qg Try.func29 _ (dm (bO.calls (rd l0_3 x4_2) 1 40 true _ A20.out) fun nd => ?_)
      refine hK.out _ _ (ca6_ BK495.out ⟨(kC HB hw496_0), (kC HB hw498_0), (kC HB hw500_0), (kC HB hw502_0), (kC HB hw503_0)⟩) (fun hHeld => ?_)
      clear hK K
      refine nZ 55 ?_
      refine qa 45 14 32767 ?_; refine qa 45 15 65535 ?_; refine qa 45 16 131071 ?_; refine qa 45 17 262143 ?_; refine qa 45 19 786431 ?_; refine qc 45 18 1048575 hHeld ?_; refine qa 45 20 2097151 ?_; refine qc 45 21 4194303 hHeld ?_
      refine qo 45 22 8388607 (some 64) fun K hK => ?_
      refine qg Try.func29 _ (dm (bO.calls (rd l0_4 x4_2) 1 40 true _ A23.out) fun nd => ?_)
      refine hK.out _ _ (ca6_ BK495.out ⟨(kC HB hw496_0), (kC HB hw498_0), (kC HB hw500_0), (kC HB hw502_0), (kC HB hw503_0)⟩) (fun hHeld => ?_)
      clear hK K
      refine nZ 64 ?_
      refine qa 45 23 16777215 ?_; refine qa 45 24 33554431 ?_; refine qa 45 25 67108863 ?_; refine qa 45 26 134217727 ?_; refine qa 45 28 402653183 ?_; refine qa 45 31 2550136831 ?_; refine qa 45 33 11140071423 ?_; refine qc 45 27 11274289151 hHeld ?_; refine qa 45 29 11811160063 ?_; refine qc 45 30 12884901887 hHeld ?_; refine qc 45 32 17179869183 hHeld ?_; refine qa 45 34 34359738367 ?_; refine qc 45 35 68719476735 hHeld ?_
      refine qo 45 36 137438953471 (some 78) fun K hK => ?_
      refine qg Try.func29 _ (dm (bO.calls (rd l0_2 x4_2) (rd l0_4 x4_2) 40 false _ A26.out) fun nd => ?_)
      refine hK.out _ _ (ca6_ BK495.out ⟨(kC HB hw496_0), (kC HB hw498_0), (kC HB hw500_0), (kC HB hw502_0), (kC HB hw503_0)⟩) (fun hHeld => ?_)
      clear hK K
      refine nZ 78 ?_
      refine qa 45 37 274877906943 ?_; refine qa 45 38 549755813887 ?_; refine qa 45 39 1099511627775 ?_; refine qb 45 40 2199023255551 ?_; refine qb 45 41 4398046511103 ?_; refine qb 45 42 8796093022207 ?_; refine qb 45 43 17592186044415 ?_; refine qa 45 44 35184372088831 ?_
      refine qd ?_
      try go_wp2
      go_ret
      exact ⟨kE, kR1 HB⟩
     replace ⟨t505, A28, H⟩ := sV H
     replace H := sB H; rcases H with ⟨c29, H⟩ | ⟨c29, H⟩
     ·
      have c29b0 : decide (40 < t505) = true := zR c29; clear c29; obtain rfl := sJ H
      try go_wp2
      replace BK495 := yD (yO BK495.out); replace HB := yD (yP HB.out)
      obtain ⟨p496, q496, ad496, e496, hx496_0⟩ := sI (Kd.aX C0_1.r x4_2)
      have hw496_0 := hx496_0; cases e496
      replace hx496_0 := kD HB hx496_0
      obtain ⟨p498, q498, ad498, e498, hx498_0⟩ := sI (Kd.aX C0_3.r x4_2)
      have hw498_0 := hx498_0; cases e498
      replace hx498_0 := kD HB hx498_0
      obtain ⟨p500, q500, ad500, e500, hx500_0⟩ := sI (Kd.aX C0_4.r x4_2)
      have hw500_0 := hx500_0; cases e500
      replace hx500_0 := kD HB hx500_0
      obtain ⟨p502, q502, ad502, e502, hx502_0⟩ := sI (Kd.aX C0_2.r x4_2)
      have hw502_0 := hx502_0; cases e502
      replace hx502_0 := kD HB hx502_0
      obtain ⟨p503, q503, ad503, e503, hx503_0⟩ := sI (Kd.aX C0_4.r x4_2)
      have hw503_0 := hx503_0
      obtain rfl : ad500 = ad503 := (by injection e503)
      replace hx503_0 := kD HB hx503_0
      refine s0 (m := 45) (S := fun w' => cl w' gb495 0 (.int .i64 a0_0) ∧ cl w' gb495 1 (.slice (some ad496) l0_1.length c0_1) ∧ cl w' gb495 2 (.slice (some ad502) l0_2.length c0_2) ∧ cl w' gb495 3 (.slice (some ad498) l0_3.length c0_3) ∧ cl w' gb495 4 (.slice (some ad500) l0_4.length c0_4) ∧ cl w' gb495 5 (.slice A0_5 l0_5.length c0_5) ∧ w'.cell? (ad496.add (x4_2).toNat) = some (.int .i64 (rd l0_1 x4_2)) ∧ w'.cell? (ad498.add (x4_2).toNat) = some (.int .i64 (rd l0_3 x4_2)) ∧ w'.cell? (ad500.add (x4_2).toNat) = some (.int .i64 (rd l0_4 x4_2)) ∧ w'.cell? (ad502.add (x4_2).toNat) = some (.int .i64 (rd l0_2 x4_2)) ∧ w'.cell? (ad500.add (x4_2).toNat) = some (.int .i64 (rd l0_4 x4_2))) bI.tab7 bI.bits7 (ca6_ BK495.out ⟨(kC HB hw496_0), (kC HB hw498_0), (kC HB hw500_0), (kC HB hw502_0), (kC HB hw503_0)⟩) fun hHeld HT_ HW_ => ?_
      generalize wr.drew = w30 at BK495 HB hx496_0 hx498_0 hx500_0 hx502_0 hx503_0 hHeld ⊢
      refine qa 45 0 1 ?_; refine qa 45 2 5 ?_; refine qc 45 1 7 hHeld ?_; refine qa 45 3 15 ?_; refine qc 45 4 31 hHeld ?_
      refine qo 45 5 63 (some 47) fun K hK => ?_
      refine qg Try.func29 _ (dm (bO.calls (rd l0_1 x4_2) 0 40 true _ A17.out) fun nd => ?_)
      refine hK.out _ _ (ca6_ BK495.out ⟨(kC HB hw496_0), (kC HB hw498_0), (kC HB hw500_0), (kC HB hw502_0), (kC HB hw503_0)⟩) (fun hHeld => ?_)
      clear hK K
      refine nZ 47 ?_
      refine qa 45 6 127 ?_; refine qa 45 7 255 ?_; refine qa 45 8 511 ?_; refine qa 45 10 1535 ?_; refine qc 45 9 2047 hHeld ?_; refine qa 45 11 4095 ?_; refine qc 45 12 8191 hHeld ?_
      refine qo 45 13 16383 (some 55) fun K hK => ?_
      refine qg Try.func29 _ (dm (bO.calls (rd l0_3 x4_2) 1 40 true _ A20.out) fun nd => ?_)
      refine hK.out _ _ (ca6_ BK495.out ⟨(kC HB hw496_0), (kC HB hw498_0), (kC HB hw500_0), (kC HB hw502_0), (kC HB hw503_0)⟩) (fun hHeld => ?_)
      clear hK K
      refine nZ 55 ?_
      refine qa 45 14 32767 ?_; refine qa 45 15 65535 ?_; refine qa 45 16 131071 ?_; refine qa 45 17 262143 ?_; refine qa 45 19 786431 ?_; refine qc 45 18 1048575 hHeld ?_; refine qa 45 20 2097151 ?_; refine qc 45 21 4194303 hHeld ?_
      refine qo 45 22 8388607 (some 64) fun K hK => ?_
      refine qg Try.func29 _ (dm (bO.calls (rd l0_4 x4_2) 1 40 true _ A23.out) fun nd => ?_)
      refine hK.out _ _ (ca6_ BK495.out ⟨(kC HB hw496_0), (kC HB hw498_0), (kC HB hw500_0), (kC HB hw502_0), (kC HB hw503_0)⟩) (fun hHeld => ?_)
      clear hK K
      refine nZ 64 ?_
      refine qa 45 23 16777215 ?_; refine qa 45 24 33554431 ?_; refine qa 45 25 67108863 ?_; refine qa 45 26 134217727 ?_; refine qa 45 28 402653183 ?_; refine qa 45 31 2550136831 ?_; refine qa 45 33 11140071423 ?_; refine qc 45 27 11274289151 hHeld ?_; refine qa 45 29 11811160063 ?_; refine qc 45 30 12884901887 hHeld ?_; refine qc 45 32 17179869183 hHeld ?_; refine qa 45 34 34359738367 ?_; refine qc 45 35 68719476735 hHeld ?_
      refine qo 45 36 137438953471 (some 78) fun K hK => ?_
      refine qg Try.func29 _ (dm (bO.calls (rd l0_2 x4_2) (rd l0_4 x4_2) 40 true _ A26.out) fun nd => ?_)
      refine hK.out _ _ (ca6_ BK495.out ⟨(kC HB hw496_0), (kC HB hw498_0), (kC HB hw500_0), (kC HB hw502_0), (kC HB hw503_0)⟩) (fun hHeld => ?_)
      clear hK K
      refine nZ 78 ?_
      refine qa 45 37 274877906943 ?_; refine qa 45 38 549755813887 ?_; refine qa 45 39 1099511627775 ?_; refine qa 45 41 3298534883327 ?_; refine qc 45 40 4398046511103 hHeld ?_
      refine qo 45 42 8796093022207 (some 84) fun K hK => ?_
      refine qg Try.func54 _ (dn (spec_l06End.calls a0_0 _ _ l0_1 _ _ l0_2 _ _ l0_3 _ _ l0_4 _ _ l0_5 x4_2 t505 _ (C0_1.b HB) (C0_2.b HB) (C0_3.b HB) (C0_4.b HB) (C0_5.b HB) A28.out) fun w31 hb => ?_)
      replace BK495 := zY BK495 hb; replace HB := zX HB hb
      refine hK.out _ _ (ca6_ BK495.out ⟨(kC HB hw496_0), (kC HB hw498_0), (kC HB hw500_0), (kC HB hw502_0), (kC HB hw503_0)⟩) (fun hHeld => ?_)
      clear hK K
      refine nZ 84 ?_
      refine qa 45 43 17592186044415 ?_; refine qa 45 44 35184372088831 ?_
      refine qd ?_
      try go_wp2
      go_ret
      exact ⟨kE, kR1 HB⟩
     have c29b0 : decide (40 < t505) = false := zS c29; clear c29
     have H' := yD H
     clear H
     try go_wp2
     replace BK495 := yD (yO BK495.out); replace HB := yD (yP HB.out)
     obtain ⟨p496, q496, ad496, e496, hx496_0⟩ := sI (Kd.aX C0_1.r x4_2)
     have hw496_0 := hx496_0; cases e496
     replace hx496_0 := kD HB hx496_0
     obtain ⟨p498, q498, ad498, e498, hx498_0⟩ := sI (Kd.aX C0_3.r x4_2)
     have hw498_0 := hx498_0; cases e498
     replace hx498_0 := kD HB hx498_0
     obtain ⟨p500, q500, ad500, e500, hx500_0⟩ := sI (Kd.aX C0_4.r x4_2)
     have hw500_0 := hx500_0; cases e500
     replace hx500_0 := kD HB hx500_0
     obtain ⟨p502, q502, ad502, e502, hx502_0⟩ := sI (Kd.aX C0_2.r x4_2)
     have hw502_0 := hx502_0; cases e502
     replace hx502_0 := kD HB hx502_0
     obtain ⟨p503, q503, ad503, e503, hx503_0⟩ := sI (Kd.aX C0_4.r x4_2)
     have hw503_0 := hx503_0
     obtain rfl : ad500 = ad503 := (by injection e503)
     replace hx503_0 := kD HB hx503_0
     refine s0 (m := 45) (S := fun w' => cl w' gb495 0 (.int .i64 a0_0) ∧ cl w' gb495 1 (.slice (some ad496) l0_1.length c0_1) ∧ cl w' gb495 2 (.slice (some ad502) l0_2.length c0_2) ∧ cl w' gb495 3 (.slice (some ad498) l0_3.length c0_3) ∧ cl w' gb495 4 (.slice (some ad500) l0_4.length c0_4) ∧ cl w' gb495 5 (.slice A0_5 l0_5.length c0_5) ∧ w'.cell? (ad496.add (x4_2).toNat) = some (.int .i64 (rd l0_1 x4_2)) ∧ w'.cell? (ad498.add (x4_2).toNat) = some (.int .i64 (rd l0_3 x4_2)) ∧ w'.cell? (ad500.add (x4_2).toNat) = some (.int .i64 (rd l0_4 x4_2)) ∧ w'.cell? (ad502.add (x4_2).toNat) = some (.int .i64 (rd l0_2 x4_2)) ∧ w'.cell? (ad500.add (x4_2).toNat) = some (.int .i64 (rd l0_4 x4_2))) bI.tab7 bI.bits7 (ca6_ BK495.out ⟨(kC HB hw496_0), (kC HB hw498_0), (kC HB hw500_0), (kC HB hw502_0), (kC HB hw503_0)⟩) fun hHeld HT_ HW_ => ?_
     generalize wr.drew = w32 at BK495 HB hx496_0 hx498_0 hx500_0 hx502_0 hx503_0 hHeld ⊢
     refine qa 45 0 1 ?_; refine qa 45 2 5 ?_; refine qc 45 1 7 hHeld ?_; refine qa 45 3 15 ?_; refine qc 45 4 31 hHeld ?_
     refine qo 45 5 63 (some 47) fun K hK => ?_
     refine qg Try.func29 _ (dm (bO.calls (rd l0_1 x4_2) 0 40 true _ A17.out) fun nd => ?_)
     refine hK.out _ _ (ca6_ BK495.out ⟨(kC HB hw496_0), (kC HB hw498_0), (kC HB hw500_0), (kC HB hw502_0), (kC HB hw503_0)⟩) (fun hHeld => ?_)
     clear hK K
     refine nZ 47 ?_
     refine qa 45 6 127 ?_; refine qa 45 7 255 ?_; refine qa 45 8 511 ?_; refine qa 45 10 1535 ?_; refine qc 45 9 2047 hHeld ?_; refine qa 45 11 4095 ?_; refine qc 45 12 8191 hHeld ?_
     refine qo 45 13 16383 (some 55) fun K hK => ?_
     refine qg Try.func29 _ (dm (bO.calls (rd l0_3 x4_2) 1 40 true _ A20.out) fun nd => ?_)
     refine hK.out _ _ (ca6_ BK495.out ⟨(kC HB hw496_0), (kC HB hw498_0), (kC HB hw500_0), (kC HB hw502_0), (kC HB hw503_0)⟩) (fun hHeld => ?_)
     clear hK K
     refine nZ 55 ?_
     refine qa 45 14 32767 ?_; refine qa 45 15 65535 ?_; refine qa 45 16 131071 ?_; refine qa 45 17 262143 ?_; refine qa 45 19 786431 ?_; refine qc 45 18 1048575 hHeld ?_; refine qa 45 20 2097151 ?_; refine qc 45 21 4194303 hHeld ?_
     refine qo 45 22 8388607 (some 64) fun K hK => ?_
     refine qg Try.func29 _ (dm (bO.calls (rd l0_4 x4_2) 1 40 true _ A23.out) fun nd => ?_)
     refine hK.out _ _ (ca6_ BK495.out ⟨(kC HB hw496_0), (kC HB hw498_0), (kC HB hw500_0), (kC HB hw502_0), (kC HB hw503_0)⟩) (fun hHeld => ?_)
     clear hK K
     refine nZ 64 ?_
     refine qa 45 23 16777215 ?_; refine qa 45 24 33554431 ?_; refine qa 45 25 67108863 ?_; refine qa 45 26 134217727 ?_; refine qa 45 28 402653183 ?_; refine qa 45 31 2550136831 ?_; refine qa 45 33 11140071423 ?_; refine qc 45 27 11274289151 hHeld ?_; refine qa 45 29 11811160063 ?_; refine qc 45 30 12884901887 hHeld ?_; refine qc 45 32 17179869183 hHeld ?_; refine qa 45 34 34359738367 ?_; refine qc 45 35 68719476735 hHeld ?_
     refine qo 45 36 137438953471 (some 78) fun K hK => ?_
     refine qg Try.func29 _ (dm (bO.calls (rd l0_2 x4_2) (rd l0_4 x4_2) 40 true _ A26.out) fun nd => ?_)
     refine hK.out _ _ (ca6_ BK495.out ⟨(kC HB hw496_0), (kC HB hw498_0), (kC HB hw500_0), (kC HB hw502_0), (kC HB hw503_0)⟩) (fun hHeld => ?_)
     clear hK K
     refine nZ 78 ?_
     refine qa 45 37 274877906943 ?_; refine qa 45 38 549755813887 ?_; refine qa 45 39 1099511627775 ?_; refine qa 45 41 3298534883327 ?_; refine qc 45 40 4398046511103 hHeld ?_
     refine qo 45 42 8796093022207 (some 84) fun K hK => ?_
     refine qg Try.func54 _ (dn (spec_l06End.calls a0_0 _ _ l0_1 _ _ l0_2 _ _ l0_3 _ _ l0_4 _ _ l0_5 x4_2 t505 _ (C0_1.b HB) (C0_2.b HB) (C0_3.b HB) (C0_4.b HB) (C0_5.b HB) A28.out) fun w33 hb => ?_)
     replace BK495 := zY BK495 hb; replace HB := zX HB hb
     refine hK.out _ _ (ca6_ BK495.out ⟨(kC HB hw496_0), (kC HB hw498_0), (kC HB hw500_0), (kC HB hw502_0), (kC HB hw503_0)⟩) (fun hHeld => ?_)
     clear hK K
     refine nZ 84 ?_
     refine qa 45 43 17592186044415 ?_; refine qa 45 44 35184372088831 ?_
     refine qd ?_
     try go_wp2
     go_roundg k2
     case measure => have := HJ1.out; have := HK2.out; omega
     case rel => exact ⟨(wrap64 (x4_2 + 1)), kF, H', ⟨by have := HJ1.out; have := HK2.out; omega⟩, ⟨kM BK495⟩, ⟨kR1 HB⟩⟩
mutual
def bP.l0 : Nat → List (S68) → Int → Option (Bool)
 | 0, _, _ => none
 | k + 1, x0, x3 => if x3 < (x0.length : Int) then (if 0 ≤ x3 then (if 0 < (x0.length : Int) then (if (((bU x0 x3).f0).length : Int) = (((bU x0 0).f0).length : Int) then (bP.j1 k x0 x3 (decide ((((bU x0 x3).f0).length : Int) > 3))) else (bP.j1 k x0 x3 true)) else (none)) else (none)) else (some true)
def bP.j1 : Nat → List (S68) → Int → Bool → Option (Bool)
 | 0, _, _, _ => none
 | k + 1, x0, x3, x35 => if x35 = true then (some false) else (bP.l1 k x0 x3 0)
def bP.l1 : Nat → List (S68) → Int → Int → Option (Bool)
 | 0, _, _, _ => none
 | k + 1, x0, x3, x4 => if 0 ≤ x3 then (if x3 < (x0.length : Int) then (if x4 < (((bU x0 x3).f0).length : Int) then (if 0 ≤ x4 then ((bO.f (rd ((bU x0 x3).f0) x4) 0 39).bind fun t513 => (if t513 = true then (bP.l1 k x0 x3 (wrap64 (x4 + 1))) else (some false))) else (none)) else (bP.l0 k x0 (wrap64 (x3 + 1)))) else (none)) else (none)
end
def bP.f (k : Nat) (l0 : List (S68)) : Option (Bool) := (bO.f (l0.length : Int) 1 24).bind fun t506 => (if t506 = true then (bP.l0 k l0 0) else (some false))
theorem bP.calls (k : Nat) (A0 : Option Addr) (c0 : Nat) (l0 : List (S68)) (r : Bool) (w : World) (C0 : Cm k68 w A0 c0 l0) (h : bP.f k l0 = some r) :
 Calls Try.prog 81 #[.slice A0 l0.length c0] w fun e w' => e = .returned (.bool r) ∧ aT w w' := by
 unfold bP.f at h
 have H := h
 clear h
 replace ⟨t506, A2, H⟩ := sV H
 replace H := sS H; rcases H with ⟨rfl, H⟩ | ⟨rfl, H⟩
 ·
  obtain rfl := sJ H; go_enter Try.func81, Try.ntmps81
  go_wp2_with (first | (go_at_call 29; (with_reducible refine (bO.calls (l0.length : Int) 1 24 false _ A2.out).mono ?_); rintro e w' ⟨rfl, ⟨nd, rfl⟩⟩; (try first | exact ⟨rfl, _, World.drewN_drewN _ _ _⟩ | exact ⟨rfl, _, Eq.trans (World.drewN_drewN _ _ _) (congrArg (World.drewN _) (Nat.add_assoc _ _ _))⟩)))
  repeat (go_quiet (first | (go_at_call 29; (with_reducible refine (bO.calls (l0.length : Int) 1 24 false _ A2.out).mono ?_); rintro e w' ⟨rfl, ⟨nd, rfl⟩⟩; (try first | exact ⟨rfl, _, World.drewN_drewN _ _ _⟩ | exact ⟨rfl, _, Eq.trans (World.drewN_drewN _ _ _) (congrArg (World.drewN _) (Nat.add_assoc _ _ _))⟩))); try go_wp2_with (first | (go_at_call 29; (with_reducible refine (bO.calls (l0.length : Int) 1 24 false _ A2.out).mono ?_); rintro e w' ⟨rfl, ⟨nd, rfl⟩⟩; (try first | exact ⟨rfl, _, World.drewN_drewN _ _ _⟩ | exact ⟨rfl, _, Eq.trans (World.drewN_drewN _ _ _) (congrArg (World.drewN _) (Nat.add_assoc _ _ _))⟩))))
  go_ret
  exact ⟨by first | rfl | (simp; done) | (simp [*]; done), by repeat (first | exact aT.refl _ | apply aT.step)⟩
 have H' := yD H
 clear H; go_enter Try.func81, Try.ntmps81
 go_wp2_with (first | (go_at_call 29; (with_reducible refine (bO.calls (l0.length : Int) 1 24 true _ A2.out).mono ?_); rintro e w' ⟨rfl, ⟨nd, rfl⟩⟩; (try first | exact ⟨rfl, _, World.drewN_drewN _ _ _⟩ | exact ⟨rfl, _, Eq.trans (World.drewN_drewN _ _ _) (congrArg (World.drewN _) (Nat.add_assoc _ _ _))⟩)))
 repeat (go_quiet (first | (go_at_call 29; (with_reducible refine (bO.calls (l0.length : Int) 1 24 true _ A2.out).mono ?_); rintro e w' ⟨rfl, ⟨nd, rfl⟩⟩; (try first | exact ⟨rfl, _, World.drewN_drewN _ _ _⟩ | exact ⟨rfl, _, Eq.trans (World.drewN_drewN _ _ _) (congrArg (World.drewN _) (Nat.add_assoc _ _ _))⟩))); try go_wp2_with (first | (go_at_call 29; (with_reducible refine (bO.calls (l0.length : Int) 1 24 true _ A2.out).mono ?_); rintro e w' ⟨rfl, ⟨nd, rfl⟩⟩; (try first | exact ⟨rfl, _, World.drewN_drewN _ _ _⟩ | exact ⟨rfl, _, Eq.trans (World.drewN_drewN _ _ _) (congrArg (World.drewN _) (Nat.add_assoc _ _ _))⟩))))
 go_loopg [3] k (fun kq v3 w' => ∃ (x3_1 : Int), v3 = .int .i64 x3_1 ∧ aC (bP.l0 kq l0 x3_1 = some r) ∧ aC (kq ≤ k) ∧ aT w w')
 case atStart => exact ⟨(0), kF, H', ⟨Nat.le_refl _⟩, by repeat (first | exact aT.refl _ | apply aT.step)⟩
 case round =>
  clear H'
  obtain ⟨x3_1, rfl, HA, HK1, ⟨m1, rfl⟩⟩ := hrel
  cases gk with
  | zero => exact absurd HA.out (by simp [bP.l0])
  | succ k1 =>
   have H := HA.out; clear HA
   simp only [bP.l0] at H
   replace H := sG H; rcases H with ⟨c4b0, H⟩ | ⟨c4b0, H⟩
   ·
    obtain rfl := sJ H
    go_wp2
    repeat (go_quiet (fail); try go_wp2)
    go_ret
    exact ⟨by first | rfl | (simp; done) | (simp [*]; done), by repeat (first | exact aT.refl _ | apply aT.step)⟩
   have HC5 := yD H
   clear H
   go_upto_region 6 with (fail)
   repeat (go_quiet (fail); go_upto_region 6 with (fail))
   go_cut [35] (fun v35 wc => ∃ (kq : Nat) (x35_4 : Bool), v35 = .bool x35_4 ∧ aC (bP.j1 kq l0 x3_1 x35_4 = some r) ∧ aC (kq ≤ k1) ∧ aT w wc)
   case first =>
    have H := HC5.out; clear HC5
    replace ⟨c6b0, H⟩ := sE H
    (first | rw [c6b0] | (simp only [i64_w, i32_w]; rw [c6b0]) | (simp only [bne] at c6b0; rw [c6b0]) | skip)
    replace ⟨c7, H⟩ := sD H
    have c7b0 : decide (0 < (l0.length : Int)) = true := zR c7
    have c7b1 : decide (0 < l0.length) = true := zR (by omega)
    clear c7
    replace H := sP H; rcases H with ⟨c8, c8b0, c8b1, H⟩ | ⟨c8, c8b0, c8b1, H⟩
    ·
     have c8b2 : (((bU l0 x3_1).f0).length == ((bU l0 0).f0).length) = false := by first | simpa using c8 | (simp at c8 ⊢; omega)
     have H' := yD H
     clear H
     obtain ⟨p507, q507, ad507, A507_0, c507_0, e507, hx507_0, HC507_0, HR507_0⟩ := sI (at_T68 C0.r x3_1)
     cases e507
     have p508 : 0 ≤ (0 : Int) := (by omega)
     have q508 : 0 < (l0.length : Int) := zP (by assumption)
     obtain ⟨ad508, A508_0, c508_0, e508, hx508_0, HC508_0, HR508_0⟩ := at_T68 C0.r 0 p508 q508
     obtain rfl : ad507 = ad508 := (by injection e508)
     have qi508 : (0 < l0.length) = True := eq_true (by omega)
     (try rw [show ((0 : Int)).toNat = 0 from rfl] at hx508_0)
     (try rw [Addr.add_zero'] at hx508_0)
     replace p508 := eq_true p508; replace q508 := eq_true q508
     go_wp2
     repeat (go_quiet (fail); try go_wp2)
     go_meet
     case rel => exact ⟨_, (true), kF, H', ⟨by have := HK1.out; first | omega | exact Nat.le_refl _⟩, by repeat (first | exact aT.refl _ | apply aT.step)⟩
    have c8b2 : (((bU l0 x3_1).f0).length == ((bU l0 0).f0).length) = true := by first | simpa using c8 | (simp at c8 ⊢; omega)
    clear c8
    have H' := yD H
    clear H
    obtain ⟨p507, q507, ad507, A507_0, c507_0, e507, hx507_0, HC507_0, HR507_0⟩ := sI (at_T68 C0.r x3_1)
    cases e507
    have p508 : 0 ≤ (0 : Int) := (by omega)
    have q508 : 0 < (l0.length : Int) := zP (by assumption)
    obtain ⟨ad508, A508_0, c508_0, e508, hx508_0, HC508_0, HR508_0⟩ := at_T68 C0.r 0 p508 q508
    obtain rfl : ad507 = ad508 := (by injection e508)
    have qi508 : (0 < l0.length) = True := eq_true (by omega)
    (try rw [show ((0 : Int)).toNat = 0 from rfl] at hx508_0)
    (try rw [Addr.add_zero'] at hx508_0)
    replace p508 := eq_true p508; replace q508 := eq_true q508
    obtain ⟨p509, q509, ad509, A509_0, c509_0, e509, hx509_0, HC509_0, HR509_0⟩ := sI (at_T68 C0.r x3_1)
    obtain rfl : ad507 = ad509 := (by injection e509)
    have ea_ := Option.some.inj (hx507_0.symm.trans hx509_0)
    injection ea_ with ea_ en_ ec_
    subst ea_; subst ec_; clear en_
    go_wp2
    repeat (go_quiet (fail); try go_wp2)
    go_meet
    case rel => exact ⟨_, (decide ((((bU l0 x3_1).f0).length : Int) > 3)), kF, H', ⟨by have := HK1.out; first | omega | exact Nat.le_refl _⟩, by repeat (first | exact aT.refl _ | apply aT.step)⟩
   case rest =>
    clear HC5
    obtain ⟨kq, x35_4, rfl, HA, HJ4, ⟨mc4, rfl⟩⟩ := hcut
    cases kq with
    | zero => exact absurd HA.out (by simp [bP.j1])
    | succ kj4 =>
     have H := HA.out; clear HA
     simp only [bP.j1] at H
     replace H := sT H; rcases H with ⟨rfl, H⟩ | ⟨rfl, H⟩
     ·
      obtain rfl := sJ H
      go_wp2
      repeat (go_quiet (fail); try go_wp2)
      go_ret
      exact ⟨by first | rfl | (simp; done) | (simp [*]; done), by repeat (first | exact aT.refl _ | apply aT.step)⟩
     have H' := yD H
     clear H
     go_wp2
     repeat (go_quiet (fail); try go_wp2)
     go_loopg [4] kj4 (fun kq v4 w' => ∃ (x4_3 : Int), v4 = .int .i64 x4_3 ∧ aC (bP.l1 kq l0 x3_1 x4_3 = some r) ∧ aC (kq ≤ kj4) ∧ aT w w')
     case atStart => exact ⟨(0), kF, H', ⟨Nat.le_refl _⟩, by repeat (first | exact aT.refl _ | apply aT.step)⟩
     case round =>
      clear H'
      obtain ⟨x4_3, rfl, HA, HK3, ⟨m3, rfl⟩⟩ := hrel
      cases gk with
      | zero => exact absurd HA.out (by simp [bP.l1])
      | succ k3 =>
       have H := HA.out; clear HA
       simp only [bP.l1] at H
       replace ⟨c10b0, H⟩ := sE H
       replace ⟨c11b0, H⟩ := sE H
       replace H := sG H; rcases H with ⟨c12b0, H⟩ | ⟨c12b0, H⟩
       ·
        have H' := yD H
        clear H
        obtain ⟨p510, q510, ad510, A510_0, c510_0, e510, hx510_0, HC510_0, HR510_0⟩ := sI (at_T68 C0.r x3_1)
        cases e510
        go_wp2
        repeat (go_quiet (fail); try go_wp2)
        go_roundg k3
        case measure => have := HK1.out; have := HJ4.out; have := HK3.out; omega
        case rel => exact ⟨(wrap64 (x3_1 + 1)), kF, H', ⟨by have := HK1.out; have := HJ4.out; have := HK3.out; omega⟩, by repeat (first | exact aT.refl _ | apply aT.step)⟩
       replace ⟨c13b0, H⟩ := sE H
       replace ⟨t513, A14, H⟩ := sV H
       replace H := sS H; rcases H with ⟨rfl, H⟩ | ⟨rfl, H⟩
       ·
        obtain rfl := sJ H
        obtain ⟨p510, q510, ad510, A510_0, c510_0, e510, hx510_0, HC510_0, HR510_0⟩ := sI (at_T68 C0.r x3_1)
        cases e510
        obtain ⟨p511, q511, ad511, A511_0, c511_0, e511, hx511_0, HC511_0, HR511_0⟩ := sI (at_T68 C0.r x3_1)
        obtain rfl : ad510 = ad511 := (by injection e511)
        have ea_ := Option.some.inj (hx510_0.symm.trans hx511_0)
        injection ea_ with ea_ en_ ec_
        subst ea_; subst ec_; clear en_
        obtain ⟨p512, q512, ad512, e512, hx512_0⟩ := sI (Kd.aX HR511_0.out x4_3)
        cases e512
        go_wp2_with (first | (go_at_call 29; (with_reducible refine (bO.calls (rd ((bU l0 x3_1).f0) x4_3) 0 39 false _ A14.out).mono ?_); rintro e w' ⟨rfl, ⟨nd, rfl⟩⟩; (try first | exact ⟨rfl, _, World.drewN_drewN _ _ _⟩ | exact ⟨rfl, _, Eq.trans (World.drewN_drewN _ _ _) (congrArg (World.drewN _) (Nat.add_assoc _ _ _))⟩)))
        repeat (go_quiet (first | (go_at_call 29; (with_reducible refine (bO.calls (rd ((bU l0 x3_1).f0) x4_3) 0 39 false _ A14.out).mono ?_); rintro e w' ⟨rfl, ⟨nd, rfl⟩⟩; (try first | exact ⟨rfl, _, World.drewN_drewN _ _ _⟩ | exact ⟨rfl, _, Eq.trans (World.drewN_drewN _ _ _) (congrArg (World.drewN _) (Nat.add_assoc _ _ _))⟩))); try go_wp2_with (first | (go_at_call 29; (with_reducible refine (bO.calls (rd ((bU l0 x3_1).f0) x4_3) 0 39 false _ A14.out).mono ?_); rintro e w' ⟨rfl, ⟨nd, rfl⟩⟩; (try first | exact ⟨rfl, _, World.drewN_drewN _ _ _⟩ | exact ⟨rfl, _, Eq.trans (World.drewN_drewN _ _ _) (congrArg (World.drewN _) (Nat.add_assoc _ _ _))⟩))))
        go_ret
        exact ⟨by first | rfl | (simp; done) | (simp [*]; done), by repeat (first | exact aT.refl _ | apply aT.step)⟩
       have H' := yD H
       clear H
       obtain ⟨p510, q510, ad510, A510_0, c510_0, e510, hx510_0, HC510_0, HR510_0⟩ := sI (at_T68 C0.r x3_1)
       cases e510
       obtain ⟨p511, q511, ad511, A511_0, c511_0, e511, hx511_0, HC511_0, HR511_0⟩ := sI (at_T68 C0.r x3_1)
       obtain rfl : ad510 = ad511 := (by injection e511)
       have ea_ := Option.some.inj (hx510_0.symm.trans hx511_0)
       injection ea_ with ea_ en_ ec_
       subst ea_; subst ec_; clear en_
       obtain ⟨p512, q512, ad512, e512, hx512_0⟩ := sI (Kd.aX HR511_0.out x4_3)
       cases e512
       go_wp2_with (first | (go_at_call 29; (with_reducible refine (bO.calls (rd ((bU l0 x3_1).f0) x4_3) 0 39 true _ A14.out).mono ?_); rintro e w' ⟨rfl, ⟨nd, rfl⟩⟩; (try first | exact ⟨rfl, _, World.drewN_drewN _ _ _⟩ | exact ⟨rfl, _, Eq.trans (World.drewN_drewN _ _ _) (congrArg (World.drewN _) (Nat.add_assoc _ _ _))⟩)))
       repeat (go_quiet (first | (go_at_call 29; (with_reducible refine (bO.calls (rd ((bU l0 x3_1).f0) x4_3) 0 39 true _ A14.out).mono ?_); rintro e w' ⟨rfl, ⟨nd, rfl⟩⟩; (try first | exact ⟨rfl, _, World.drewN_drewN _ _ _⟩ | exact ⟨rfl, _, Eq.trans (World.drewN_drewN _ _ _) (congrArg (World.drewN _) (Nat.add_assoc _ _ _))⟩))); try go_wp2_with (first | (go_at_call 29; (with_reducible refine (bO.calls (rd ((bU l0 x3_1).f0) x4_3) 0 39 true _ A14.out).mono ?_); rintro e w' ⟨rfl, ⟨nd, rfl⟩⟩; (try first | exact ⟨rfl, _, World.drewN_drewN _ _ _⟩ | exact ⟨rfl, _, Eq.trans (World.drewN_drewN _ _ _) (congrArg (World.drewN _) (Nat.add_assoc _ _ _))⟩))))
       go_roundg k3
       case measure => have := HK1.out; have := HJ4.out; have := HK3.out; omega
       case rel => exact ⟨(wrap64 (x4_3 + 1)), kF, H', ⟨by have := HK1.out; have := HJ4.out; have := HK3.out; omega⟩, by repeat (first | exact aT.refl _ | apply aT.step)⟩
def spec_l06Formed.j0 : Nat → Int → Bool → Int → List Int → List Int → List Int → List Int → List (S68) → Option (Bool)
 | 0, _, _, _, _, _, _, _, _ => none
 | k + 1, x4, x5, x515000, x515001, x515002, x515003, x515004, x515005 => if x5 = true then ((spec_l06Plain.f x515000 x515001 x515002 x515003 x515004 x515005).bind fun t515 => (if t515 = true then (some ((x515005.length : Int) == 0)) else (some false))) else (if x4 = 3 then ((bI.f k x515000 x515001 x515002 x515003 x515004 x515005).bind fun t516 => (some t516)) else (if x4 = 4 then ((spec_l06Plain.f x515000 x515001 x515002 x515003 x515004 x515005).bind fun t517 => (if t517 = true then ((bP.f k x515005).bind fun t518 => (some t518)) else (some false))) else (some false)))
def spec_l06Formed.f (k : Nat) (a0_0 : Int) (l0_1 l0_2 : List Int) (l0_3 l0_4 : List Int) (l0_5 : List (S68)) : Option (Bool) := if a0_0 = 1 then (spec_l06Formed.j0 k a0_0 (a0_0 == 1) a0_0 l0_1 l0_2 l0_3 l0_4 l0_5) else (spec_l06Formed.j0 k a0_0 (a0_0 == 2) a0_0 l0_1 l0_2 l0_3 l0_4 l0_5)
theorem spec_l06Formed.calls (k : Nat) (a0_0 : Int) (A0_1 : Option Addr) (c0_1 : Nat) (l0_1 : List Int) (A0_2 : Option Addr) (c0_2 : Nat) (l0_2 : List Int) (A0_3 : Option Addr) (c0_3 : Nat) (l0_3 : List Int) (A0_4 : Option Addr) (c0_4 : Nat) (l0_4 : List Int) (A0_5 : Option Addr) (c0_5 : Nat) (l0_5 : List (S68)) (r : Bool) (w : World) (C0_1 : Cm (Kd.int .i64) w A0_1 c0_1 l0_1) (C0_2 : Cm (Kd.int .i64) w A0_2 c0_2 l0_2) (C0_3 : Cm (Kd.int .i64) w A0_3 c0_3 l0_3) (C0_4 : Cm (Kd.int .i64) w A0_4 c0_4 l0_4) (C0_5 : Cm k68 w A0_5 c0_5 l0_5) (h : spec_l06Formed.f k a0_0 l0_1 l0_2 l0_3 l0_4 l0_5 = some r) :
 Calls Try.prog 53 #[.agg #[.int .i64 a0_0, .slice A0_1 l0_1.length c0_1, .slice A0_2 l0_2.length c0_2, .slice A0_3 l0_3.length c0_3, .slice A0_4 l0_4.length c0_4, .slice A0_5 l0_5.length c0_5]] w fun e w' => e = .returned (.bool r) ∧ Below w.heap.size w w' := by
 have hu26 := Try.underlying26
 have HB := yD (Below.refl w.heap.size w)
 unfold spec_l06Formed.f at h
 have H := h
 clear h
 have HC2 := yD H
 clear H; go_enter Try.func53, Try.ntmps53
 go_upto_if 5 with (first | (refine gD 1 ?_; (try (refine gate_guard (by rfl) ?_; dsimp only)); refine bF (N := 1) (cs := #[.int .i64 a0_0, .slice A0_1 l0_1.length c0_1, .slice A0_2 l0_2.length c0_2, .slice A0_3 l0_3.length c0_3, .slice A0_4 l0_4.length c0_4, .slice A0_5 l0_5.length c0_5]) (t := 26) HB ?_; intro gb514 w3 BK514 GW514 HB; have := cf6_ BK514.out))
 (try simp only [Act.put, zH, zI, zJ])
 go_cut [5] (fun v5 wc => ∃ (kq : Nat) (x5_1 : Bool), v5 = .bool x5_1 ∧ aC (spec_l06Formed.j0 kq a0_0 x5_1 a0_0 l0_1 l0_2 l0_3 l0_4 l0_5 = some r) ∧ aC (kq ≤ k) ∧ aC (wc.heap[gb514]? = some (.cells #[.int .i64 a0_0, (.slice A0_1 l0_1.length c0_1), (.slice A0_2 l0_2.length c0_2), (.slice A0_3 l0_3.length c0_3), (.slice A0_4 l0_4.length c0_4), (.slice A0_5 l0_5.length c0_5)] 26 (0, 0))) ∧ aC (Below w.heap.size w wc))
 case first =>
  have H := HC2.out; clear HC2
  replace H := sP H; rcases H with ⟨c5, c5b0, c5b1, H⟩ | ⟨-, c5b0, c5b1, H⟩
  ·
   (first | rw [c5b0] | (simp only [i64_w, i32_w]; rw [c5b0]) | (simp only [bne] at c5b0; rw [c5b0]) | skip)
   have H' := yD H
   clear H
   go_wp2
   go_meet
   case rel => exact ⟨_, ((a0_0 == 2)), kF, H', ⟨by first | omega | exact Nat.le_refl _⟩, ⟨kM BK514⟩, ⟨kR1 HB⟩⟩
  (first | rw [c5b0] | (simp only [i64_w, i32_w]; rw [c5b0]) | (simp only [bne] at c5b0; rw [c5b0]) | skip)
  have H' := yD H
  clear H
  go_wp2
  go_meet
  case rel => exact ⟨_, ((a0_0 == 1)), kF, H', ⟨by first | omega | exact Nat.le_refl _⟩, ⟨kM BK514⟩, ⟨kR1 HB⟩⟩
 case rest =>
  clear HC2
  obtain ⟨kq, x5_1, rfl, HA, HJ1, BK514, HB⟩ := hcut
  cases kq with
  | zero => exact absurd HA.out (by simp [spec_l06Formed.j0])
  | succ kj1 =>
   have H := HA.out; clear HA
   simp only [spec_l06Formed.j0] at H
   replace H := sT H; rcases H with ⟨rfl, H⟩ | ⟨rfl, H⟩
   ·
    replace ⟨t515, A7, H⟩ := sV H
    replace H := sS H; rcases H with ⟨rfl, H⟩ | ⟨rfl, H⟩
    ·
     obtain rfl := sJ H
     have := cf6_ BK514.out
     go_wp2_with (first | (refine gC 79 ?_; refine gL 9 Try.func79 _ (dn (spec_l06Plain.calls a0_0 _ _ l0_1 _ _ l0_2 _ _ l0_3 _ _ l0_4 _ _ l0_5 false _ (C0_1.b HB) (C0_2.b HB) (C0_3.b HB) (C0_4.b HB) (C0_5.b HB) A7.out) fun w13 hb => ?_); replace BK514 := zY BK514 hb; replace HB := zX HB hb; clear hb))
     go_ret
     exact ⟨kE, kR1 HB⟩
    obtain rfl := sJ H
    have := cf6_ BK514.out
    go_wp2_with (first | (refine gC 79 ?_; refine gL 9 Try.func79 _ (dn (spec_l06Plain.calls a0_0 _ _ l0_1 _ _ l0_2 _ _ l0_3 _ _ l0_4 _ _ l0_5 true _ (C0_1.b HB) (C0_2.b HB) (C0_3.b HB) (C0_4.b HB) (C0_5.b HB) A7.out) fun w10 hb => ?_); replace BK514 := zY BK514 hb; replace HB := zX HB hb; clear hb; have := cf6_ BK514.out))
    go_ret
    exact ⟨kE, kR1 HB⟩
   replace H := sQ H; rcases H with ⟨-, c14b0, c14b1, H⟩ | ⟨c14, c14b0, c14b1, H⟩
   ·
    replace ⟨t516, A15, H⟩ := sV H
    obtain rfl := sJ H
    have := cf6_ BK514.out
    go_wp2_with (first | (refine gC 80 ?_; refine gL 19 Try.func80 _ (dn (bI.calls kj1 a0_0 _ _ l0_1 _ _ l0_2 _ _ l0_3 _ _ l0_4 _ _ l0_5 t516 _ (C0_1.b HB) (C0_2.b HB) (C0_3.b HB) (C0_4.b HB) (C0_5.b HB) A15.out) fun w17 hb => ?_); replace BK514 := zY BK514 hb; replace HB := zX HB hb; clear hb))
    go_ret
    exact ⟨kE, kR1 HB⟩
   replace H := sP H; rcases H with ⟨c18, c18b0, c18b1, H⟩ | ⟨-, c18b0, c18b1, H⟩
   ·
    obtain rfl := sJ H
    go_wp2
    go_ret
    exact ⟨kE, kR1 HB⟩
   replace ⟨t517, A19, H⟩ := sV H
   replace H := sS H; rcases H with ⟨rfl, H⟩ | ⟨rfl, H⟩
   ·
    obtain rfl := sJ H
    have := cf6_ BK514.out
    go_wp2_with (first | (refine gC 79 ?_; refine gL 23 Try.func79 _ (dn (spec_l06Plain.calls a0_0 _ _ l0_1 _ _ l0_2 _ _ l0_3 _ _ l0_4 _ _ l0_5 false _ (C0_1.b HB) (C0_2.b HB) (C0_3.b HB) (C0_4.b HB) (C0_5.b HB) A19.out) fun w26 hb => ?_); replace BK514 := zY BK514 hb; replace HB := zX HB hb; clear hb))
    go_ret
    exact ⟨kE, kR1 HB⟩
   replace ⟨t518, A21, H⟩ := sV H
   obtain rfl := sJ H
   have := cf6_ BK514.out
   go_wp2_with (first | (refine gC 79 ?_; refine gL 23 Try.func79 _ (dn (spec_l06Plain.calls a0_0 _ _ l0_1 _ _ l0_2 _ _ l0_3 _ _ l0_4 _ _ l0_5 true _ (C0_1.b HB) (C0_2.b HB) (C0_3.b HB) (C0_4.b HB) (C0_5.b HB) A19.out) fun w23 hb => ?_); replace BK514 := zY BK514 hb; replace HB := zX HB hb; clear hb; have := cf6_ BK514.out) | (go_at_call 81; (with_reducible refine (bP.calls kj1 _ _ l0_5 t518 _ (C0_5.b HB) A21.out).mono ?_); rintro e w' ⟨rfl, ⟨nd, rfl⟩⟩))
   go_ret
   exact ⟨kE, kR1 HB⟩
def spec_l05Inside.l0 : Nat → List Int → List Int → Int → Option (Bool)
 | 0, _, _, _ => none
 | k + 1, x0, x1, x5 => if x5 < (x1.length : Int) then (if 0 ≤ x5 then (if x5 < (x0.length : Int) then ((bO.f (rd x1 x5) 0 (wrap64 ((rd x0 x5) - 1))).bind fun t521 => (if t521 = true then (spec_l05Inside.l0 k x0 x1 (wrap64 (x5 + 1))) else (some false))) else (none)) else (none)) else (some true)
def spec_l05Inside.f (k : Nat) (l0 l1 : List Int) : Option (Bool) := if (l1.length : Int) = (l0.length : Int) then (spec_l05Inside.l0 k l0 l1 0) else (some false)
theorem spec_l05Inside.calls (k : Nat) (A0 : Option Addr) (c0 : Nat) (l0 : List Int) (A1 : Option Addr) (c1 : Nat) (l1 : List Int) (r : Bool) (w : World) (C0 : Cm (Kd.int .i64) w A0 c0 l0) (C1 : Cm (Kd.int .i64) w A1 c1 l1) (h : spec_l05Inside.f k l0 l1 = some r) :
 Calls Try.prog 31 #[.slice A0 l0.length c0, .slice A1 l1.length c1] w fun e w' => e = .returned (.bool r) ∧ aT w w' := by
 unfold spec_l05Inside.f at h
 have H := h
 clear h
 replace H := sP H; rcases H with ⟨c3, c3b0, c3b1, H⟩ | ⟨c3, c3b0, c3b1, H⟩
 ·
  have c3b2 : (l1.length == l0.length) = false := by first | simpa using c3 | (simp at c3 ⊢; omega)
  obtain rfl := sJ H; go_enter Try.func31, Try.ntmps31
  go_wp2
  repeat (go_quiet (fail); try go_wp2)
  go_ret
  exact ⟨by first | rfl | (simp; done) | (simp [*]; done), by repeat (first | exact aT.refl _ | apply aT.step)⟩
 have c3b2 : (l1.length == l0.length) = true := by first | simpa using c3 | (simp at c3 ⊢; omega)
 clear c3
 have H' := yD H
 clear H; go_enter Try.func31, Try.ntmps31
 go_wp2
 repeat (go_quiet (fail); try go_wp2)
 go_loopg [5] k (fun kq v5 w' => ∃ (x5_1 : Int), v5 = .int .i64 x5_1 ∧ aC (spec_l05Inside.l0 kq l0 l1 x5_1 = some r) ∧ aC (kq ≤ k) ∧ aT w w')
 case atStart => exact ⟨(0), kF, H', ⟨Nat.le_refl _⟩, by repeat (first | exact aT.refl _ | apply aT.step)⟩
 case round =>
  clear H'
  obtain ⟨x5_1, rfl, HA, HK1, ⟨m1, rfl⟩⟩ := hrel
  cases gk with
  | zero => exact absurd HA.out (by simp [spec_l05Inside.l0])
  | succ k1 =>
   have H := HA.out; clear HA
   simp only [spec_l05Inside.l0] at H
   replace H := sG H; rcases H with ⟨c4b0, H⟩ | ⟨c4b0, H⟩
   ·
    obtain rfl := sJ H
    go_wp2
    repeat (go_quiet (fail); try go_wp2)
    go_ret
    exact ⟨by first | rfl | (simp; done) | (simp [*]; done), by repeat (first | exact aT.refl _ | apply aT.step)⟩
   replace ⟨c5b0, H⟩ := sE H
   replace ⟨c6b0, H⟩ := sE H
   replace ⟨t521, A7, H⟩ := sV H
   replace H := sS H; rcases H with ⟨rfl, H⟩ | ⟨rfl, H⟩
   ·
    obtain rfl := sJ H
    obtain ⟨p519, q519, ad519, e519, hx519_0⟩ := sI (Kd.aX C1.r x5_1)
    cases e519
    obtain ⟨p520, q520, ad520, e520, hx520_0⟩ := sI (Kd.aX C0.r x5_1)
    cases e520
    go_wp2_with (first | (go_at_call 29; (with_reducible refine (bO.calls (rd l1 x5_1) 0 (wrap64 ((rd l0 x5_1) - 1)) false _ A7.out).mono ?_); rintro e w' ⟨rfl, ⟨nd, rfl⟩⟩; (try first | exact ⟨rfl, _, World.drewN_drewN _ _ _⟩ | exact ⟨rfl, _, Eq.trans (World.drewN_drewN _ _ _) (congrArg (World.drewN _) (Nat.add_assoc _ _ _))⟩)))
    repeat (go_quiet (first | (go_at_call 29; (with_reducible refine (bO.calls (rd l1 x5_1) 0 (wrap64 ((rd l0 x5_1) - 1)) false _ A7.out).mono ?_); rintro e w' ⟨rfl, ⟨nd, rfl⟩⟩; (try first | exact ⟨rfl, _, World.drewN_drewN _ _ _⟩ | exact ⟨rfl, _, Eq.trans (World.drewN_drewN _ _ _) (congrArg (World.drewN _) (Nat.add_assoc _ _ _))⟩))); try go_wp2_with (first | (go_at_call 29; (with_reducible refine (bO.calls (rd l1 x5_1) 0 (wrap64 ((rd l0 x5_1) - 1)) false _ A7.out).mono ?_); rintro e w' ⟨rfl, ⟨nd, rfl⟩⟩; (try first | exact ⟨rfl, _, World.drewN_drewN _ _ _⟩ | exact ⟨rfl, _, Eq.trans (World.drewN_drewN _ _ _) (congrArg (World.drewN _) (Nat.add_assoc _ _ _))⟩))))
    go_ret
    exact ⟨by first | rfl | (simp; done) | (simp [*]; done), by repeat (first | exact aT.refl _ | apply aT.step)⟩
   have H' := yD H
   clear H
   obtain ⟨p519, q519, ad519, e519, hx519_0⟩ := sI (Kd.aX C1.r x5_1)
   cases e519
   obtain ⟨p520, q520, ad520, e520, hx520_0⟩ := sI (Kd.aX C0.r x5_1)
   cases e520
   go_wp2_with (first | (go_at_call 29; (with_reducible refine (bO.calls (rd l1 x5_1) 0 (wrap64 ((rd l0 x5_1) - 1)) true _ A7.out).mono ?_); rintro e w' ⟨rfl, ⟨nd, rfl⟩⟩; (try first | exact ⟨rfl, _, World.drewN_drewN _ _ _⟩ | exact ⟨rfl, _, Eq.trans (World.drewN_drewN _ _ _) (congrArg (World.drewN _) (Nat.add_assoc _ _ _))⟩)))
   repeat (go_quiet (first | (go_at_call 29; (with_reducible refine (bO.calls (rd l1 x5_1) 0 (wrap64 ((rd l0 x5_1) - 1)) true _ A7.out).mono ?_); rintro e w' ⟨rfl, ⟨nd, rfl⟩⟩; (try first | exact ⟨rfl, _, World.drewN_drewN _ _ _⟩ | exact ⟨rfl, _, Eq.trans (World.drewN_drewN _ _ _) (congrArg (World.drewN _) (Nat.add_assoc _ _ _))⟩))); try go_wp2_with (first | (go_at_call 29; (with_reducible refine (bO.calls (rd l1 x5_1) 0 (wrap64 ((rd l0 x5_1) - 1)) true _ A7.out).mono ?_); rintro e w' ⟨rfl, ⟨nd, rfl⟩⟩; (try first | exact ⟨rfl, _, World.drewN_drewN _ _ _⟩ | exact ⟨rfl, _, Eq.trans (World.drewN_drewN _ _ _) (congrArg (World.drewN _) (Nat.add_assoc _ _ _))⟩))))
   go_roundg k1
   case measure => have := HK1.out; omega
   case rel => exact ⟨(wrap64 (x5_1 + 1)), kF, H', ⟨by have := HK1.out; omega⟩, by repeat (first | exact aT.refl _ | apply aT.step)⟩
mutual
def bA.j0 : Nat → List Int → Bool → Int → List Int → List Int → List Int → List Int → List (S68) → Option (Bool)
 | 0, _, _, _, _, _, _, _, _ => none
 | k + 1, x0, x14, x523000, x523001, x523002, x523003, x523004, x523005 => if x14 = true then (some false) else (if x523000 = 3 then (if (x523001.length : Int) = (x0.length : Int) then (bA.l0 k x0 0 x523000 x523001 x523002 x523003 x523004 x523005) else (some false)) else (if x523000 = 4 then (bA.l1 k x0 0 x523000 x523001 x523002 x523003 x523004 x523005) else (some true)))
def bA.l0 : Nat → List Int → Int → Int → List Int → List Int → List Int → List Int → List (S68) → Option (Bool)
 | 0, _, _, _, _, _, _, _, _ => none
 | k + 1, x0, x5, x523000, x523001, x523002, x523003, x523004, x523005 => if x5 < (x0.length : Int) then ((spec_l06End.f x523000 x523001 x523002 x523003 x523004 x523005 x5).bind fun t525 => (if 0 ≤ x5 then (if t525 > (rd x0 x5) then (some false) else (bA.l0 k x0 (wrap64 (x5 + 1)) x523000 x523001 x523002 x523003 x523004 x523005)) else (none))) else (some true)
def bA.l1 : Nat → List Int → Int → Int → List Int → List Int → List Int → List Int → List (S68) → Option (Bool)
 | 0, _, _, _, _, _, _, _, _ => none
 | k + 1, x0, x6, x523000, x523001, x523002, x523003, x523004, x523005 => if x6 < (x523005.length : Int) then (if 0 ≤ x6 then ((spec_l05Inside.f k x0 ((bU x523005 x6).f0)).bind fun t528 => (if t528 = true then (bA.l1 k x0 (wrap64 (x6 + 1)) x523000 x523001 x523002 x523003 x523004 x523005) else (some false))) else (none)) else (some true)
end
def bA.f (k : Nat) (l0 : List Int) (a1_0 : Int) (l1_1 l1_2 : List Int) (l1_3 l1_4 : List Int) (l1_5 : List (S68)) : Option (Bool) := (cP.f k l0).bind fun t523 => (if t523 = true then ((spec_l06Formed.f k a1_0 l1_1 l1_2 l1_3 l1_4 l1_5).bind fun t524 => (bA.j0 k l0 (!t524) a1_0 l1_1 l1_2 l1_3 l1_4 l1_5)) else (bA.j0 k l0 true a1_0 l1_1 l1_2 l1_3 l1_4 l1_5))
def bA.T10 : Bool × List (List Nat × List Nat) := (true, [([], []), ([], []), ([0, 1], [0, 1]), ([], []), ([], []), ([3, 4], [3, 4]), ([5], [5]), ([2, 6], [2, 6])])
def bA.B10 : List Nat := [0, 0, 3, 0, 0, 24, 56, 127]
theorem bA.tab10 : rtab .any (opsOf Try.f24 10) = bA.T10 := by kernel_rfl
theorem bA.bits10 : waitsOk bA.T10.2 bA.B10 = true := by kernel_rfl
theorem bA.calls (k : Nat) (A0 : Option Addr) (c0 : Nat) (l0 : List Int) (a1_0 : Int) (A1_1 : Option Addr) (c1_1 : Nat) (l1_1 : List Int) (A1_2 : Option Addr) (c1_2 : Nat) (l1_2 : List Int) (A1_3 : Option Addr) (c1_3 : Nat) (l1_3 : List Int) (A1_4 : Option Addr) (c1_4 : Nat) (l1_4 : List Int) (A1_5 : Option Addr) (c1_5 : Nat) (l1_5 : List (S68)) (r : Bool) (w : World) (C0 : Cm (Kd.int .i64) w A0 c0 l0) (C1_1 : Cm (Kd.int .i64) w A1_1 c1_1 l1_1) (C1_2 : Cm (Kd.int .i64) w A1_2 c1_2 l1_2) (C1_3 : Cm (Kd.int .i64) w A1_3 c1_3 l1_3) (C1_4 : Cm (Kd.int .i64) w A1_4 c1_4 l1_4) (C1_5 : Cm k68 w A1_5 c1_5 l1_5) (h : bA.f k l0 a1_0 l1_1 l1_2 l1_3 l1_4 l1_5 = some r) :
 Calls Try.prog 24 #[.slice A0 l0.length c0, .agg #[.int .i64 a1_0, .slice A1_1 l1_1.length c1_1, .slice A1_2 l1_2.length c1_2, .slice A1_3 l1_3.length c1_3, .slice A1_4 l1_4.length c1_4, .slice A1_5 l1_5.length c1_5]] w fun e w' => e = .returned (.bool r) ∧ Below w.heap.size w w' := by
 have hu26 := Try.underlying26
 have HB := yD (Below.refl w.heap.size w)
 unfold bA.f at h
 have H := h
 clear h
 have HC3 := yD H
 clear H; go_enter Try.func24, Try.ntmps24
 go_upto_region 1 with (first | (refine gD 3 ?_; refine bF (N := 3) (cs := #[.int .i64 a1_0, .slice A1_1 l1_1.length c1_1, .slice A1_2 l1_2.length c1_2, .slice A1_3 l1_3.length c1_3, .slice A1_4 l1_4.length c1_4, .slice A1_5 l1_5.length c1_5]) (t := 26) HB ?_; intro gb522 w4 BK522 GW522 HB))
 (try simp only [Act.put, zH, zI, zJ])
 go_cut [14] (fun v14 wc => ∃ (kq : Nat) (x14_2 : Bool), v14 = .bool x14_2 ∧ aC (bA.j0 kq l0 x14_2 a1_0 l1_1 l1_2 l1_3 l1_4 l1_5 = some r) ∧ aC (kq ≤ k) ∧ aC (wc.heap[gb522]? = some (.cells #[.int .i64 a1_0, (.slice A1_1 l1_1.length c1_1), (.slice A1_2 l1_2.length c1_2), (.slice A1_3 l1_3.length c1_3), (.slice A1_4 l1_4.length c1_4), (.slice A1_5 l1_5.length c1_5)] 26 (0, 0))) ∧ aC (Below w.heap.size w wc))
 case first =>
  have H := HC3.out; clear HC3
  replace ⟨t523, A5, H⟩ := sV H
  replace H := sS H; rcases H with ⟨rfl, H⟩ | ⟨rfl, H⟩
  ·
   have H' := yD H
   clear H
   go_wp2_with (first | (refine gC 27 ?_; refine gL 8 Try.func27 _ (dm (cP.calls k _ _ l0 false _ (C0.b HB) A5.out) fun nd => ?_)))
   go_meet
   case rel => exact ⟨_, (true), kF, H', ⟨by first | omega | exact Nat.le_refl _⟩, ⟨kM BK522⟩, ⟨kR1 HB⟩⟩
  replace ⟨t524, A7, H⟩ := sV H
  have H' := yD H
  clear H
  go_wp2_with (first | (refine gC 27 ?_; refine gL 8 Try.func27 _ (dm (cP.calls k _ _ l0 true _ (C0.b HB) A5.out) fun nd => ?_); have := cf6_ BK522.out) | (go_at_call 53; (with_reducible refine (spec_l06Formed.calls k a1_0 _ _ l1_1 _ _ l1_2 _ _ l1_3 _ _ l1_4 _ _ l1_5 t524 _ (C1_1.b HB) (C1_2.b HB) (C1_3.b HB) (C1_4.b HB) (C1_5.b HB) A7.out).mono ?_); rintro e w9 ⟨rfl, hb⟩; replace BK522 := zY BK522 hb; replace HB := zX HB hb; clear hb))
  go_meet
  case rel => exact ⟨_, (!t524), kF, H', ⟨by first | omega | exact Nat.le_refl _⟩, ⟨kM BK522⟩, ⟨kR1 HB⟩⟩
 case rest =>
  clear HC3
  obtain ⟨kq, x14_2, rfl, HA, HJ2, BK522, HB⟩ := hcut
  cases kq with
  | zero => exact absurd HA.out (by simp [bA.j0])
  | succ kj2 =>
   have H := HA.out; clear HA
   simp only [bA.j0] at H
   replace H := sT H; rcases H with ⟨rfl, H⟩ | ⟨rfl, H⟩
   · obtain rfl := sJ H
     go_wp2
     go_ret
     exact ⟨kE, kR1 HB⟩
   replace H := sP H; rcases H with ⟨c11, c11b0, c11b1, H⟩ | ⟨-, c11b0, c11b1, H⟩
   ·
    replace H := sP H; rcases H with ⟨c23, c23b0, c23b1, H⟩ | ⟨-, c23b0, c23b1, H⟩
    ·
     obtain rfl := sJ H
     have := cf6_ BK522.out
     go_wp2
     go_ret
     exact ⟨kE, kR1 HB⟩
    have H' := yD H
    clear H
    have := cf6_ BK522.out
    go_wp2
    go_loopg [6] kj2 (fun kq v6 w' => ∃ (x6_2 : Int), v6 = .int .i64 x6_2 ∧ aC (bA.l1 kq l0 x6_2 a1_0 l1_1 l1_2 l1_3 l1_4 l1_5 = some r) ∧ aC (kq ≤ kj2) ∧ aC (w'.heap[gb522]? = some (.cells #[.int .i64 a1_0, (.slice A1_1 l1_1.length c1_1), (.slice A1_2 l1_2.length c1_2), (.slice A1_3 l1_3.length c1_3), (.slice A1_4 l1_4.length c1_4), (.slice A1_5 l1_5.length c1_5)] 26 (0, 0))) ∧ aC (Below w.heap.size w w'))
    case atStart => exact ⟨(0), kF, H', ⟨Nat.le_refl _⟩, ⟨kM BK522⟩, ⟨kR1 HB⟩⟩
    case round =>
     clear H'
     obtain ⟨x6_2, rfl, HA, HK2, BK522, HB⟩ := hrel
     cases gk with
     | zero => exact absurd HA.out (by simp [bA.l1])
     | succ k2 =>
      have H := HA.out; clear HA
      simp only [bA.l1] at H
      replace H := sG H; rcases H with ⟨c25b0, H⟩ | ⟨c25b0, H⟩
      ·
       obtain rfl := sJ H
       have := cf6_ BK522.out
       go_wp2
       go_ret
       exact ⟨kE, kR1 HB⟩
      replace ⟨c26b0, H⟩ := sE H
      replace ⟨t528, A27, H⟩ := sV H
      replace H := sS H; rcases H with ⟨rfl, H⟩ | ⟨rfl, H⟩
      ·
       obtain rfl := sJ H
       have := cf6_ BK522.out
       obtain ⟨p527, q527, ad527, A527_0, c527_0, e527, hx527_0, HC527_0, HR527_0⟩ := sI (at_T68 C1_5.r x6_2)
       cases e527
       replace hx527_0 := kD HB hx527_0
       go_wp2_with (first | (refine gC 31 ?_; refine gL 55 Try.func31 _ (dm (spec_l05Inside.calls k2 _ _ l0 _ _ ((bU l1_5 x6_2).f0) false _ (C0.b HB) (cB HR527_0 HC527_0 HB) A27.out) fun nd => ?_)))
       go_ret
       exact ⟨kE, kR1 HB⟩
      have H' := yD H
      clear H
      have := cf6_ BK522.out
      obtain ⟨p527, q527, ad527, A527_0, c527_0, e527, hx527_0, HC527_0, HR527_0⟩ := sI (at_T68 C1_5.r x6_2)
      cases e527
      replace hx527_0 := kD HB hx527_0
      go_wp2_with (first | (refine gC 31 ?_; refine gL 55 Try.func31 _ (dm (spec_l05Inside.calls k2 _ _ l0 _ _ ((bU l1_5 x6_2).f0) true _ (C0.b HB) (cB HR527_0 HC527_0 HB) A27.out) fun nd => ?_)))
      go_roundg k2
      case measure => have := HJ2.out; have := HK2.out; omega
      case rel => exact ⟨(wrap64 (x6_2 + 1)), kF, H', ⟨by have := HJ2.out; have := HK2.out; omega⟩, ⟨kM BK522⟩, ⟨kR1 HB⟩⟩
   replace H := sP H; rcases H with ⟨c12, c12b0, c12b1, H⟩ | ⟨c12, c12b0, c12b1, H⟩
   ·
    have c12b2 : (l1_1.length == l0.length) = false := by first | simpa using c12 | (simp at c12 ⊢; omega)
    obtain rfl := sJ H
    have := cf6_ BK522.out
    go_wp2
    go_ret
    exact ⟨kE, kR1 HB⟩
   have c12b2 : (l1_1.length == l0.length) = true := by first | simpa using c12 | (simp at c12 ⊢; omega)
   clear c12
   have H' := yD H
   clear H
   have := cf6_ BK522.out
   go_wp2
   go_loopg [5] kj2 (fun kq v5 w' => ∃ (x5_2 : Int), v5 = .int .i64 x5_2 ∧ aC (bA.l0 kq l0 x5_2 a1_0 l1_1 l1_2 l1_3 l1_4 l1_5 = some r) ∧ aC (kq ≤ kj2) ∧ aC (w'.heap[gb522]? = some (.cells #[.int .i64 a1_0, (.slice A1_1 l1_1.length c1_1), (.slice A1_2 l1_2.length c1_2), (.slice A1_3 l1_3.length c1_3), (.slice A1_4 l1_4.length c1_4), (.slice A1_5 l1_5.length c1_5)] 26 (0, 0))) ∧ aC (Below w.heap.size w w'))
   case atStart => exact ⟨(0), kF, H', ⟨Nat.le_refl _⟩, ⟨kM BK522⟩, ⟨kR1 HB⟩⟩
   case round =>
    clear H'
    obtain ⟨x5_2, rfl, HA, HK2, BK522, HB⟩ := hrel
    cases gk with
    | zero => exact absurd HA.out (by simp [bA.l0])
    | succ k2 =>
     have H := HA.out; clear HA
     simp only [bA.l0] at H
     replace H := sG H; rcases H with ⟨c14b0, H⟩ | ⟨c14b0, H⟩
     · obtain rfl := sJ H
       go_wp2
       go_ret
       exact ⟨kE, kR1 HB⟩
     replace ⟨t525, A15, H⟩ := sV H
     replace ⟨c16b0, H⟩ := sE H
     replace H := sB H; rcases H with ⟨c17, H⟩ | ⟨c17, H⟩
     ·
      have c17b0 : decide ((rd l0 x5_2) < t525) = true := zR c17; clear c17; obtain rfl := sJ H
      try go_wp2
      replace BK522 := yD (yO BK522.out); replace HB := yD (yP HB.out)
      obtain ⟨p526, q526, ad526, e526, hx526_0⟩ := sI (Kd.aX C0.r x5_2)
      have hw526_0 := hx526_0; cases e526
      replace hx526_0 := kD HB hx526_0
      refine s0 (m := 8) (S := fun w' => cl w' gb522 0 (.int .i64 a1_0) ∧ cl w' gb522 1 (.slice A1_1 l1_1.length c1_1) ∧ cl w' gb522 2 (.slice A1_2 l1_2.length c1_2) ∧ cl w' gb522 3 (.slice A1_3 l1_3.length c1_3) ∧ cl w' gb522 4 (.slice A1_4 l1_4.length c1_4) ∧ cl w' gb522 5 (.slice A1_5 l1_5.length c1_5) ∧ w'.cell? (ad526.add (x5_2).toNat) = some (.int .i64 (rd l0 x5_2))) bA.tab10 bA.bits10 (ca6_ BK522.out ((kC HB hw526_0))) fun hHeld HT_ HW_ => ?_
      generalize wr.drew = w18 at BK522 HB hx526_0 hHeld ⊢
      refine qa 8 1 2 ?_; refine qa 8 3 10 ?_; refine qa 8 4 26 ?_; refine qa 8 5 58 ?_; refine qc 8 0 59 hHeld ?_; refine qc 8 6 123 hHeld ?_
      refine qo 8 2 127 (some 33) fun K hK => ?_
      refine qg Try.func54 _ (dn (spec_l06End.calls a1_0 _ _ l1_1 _ _ l1_2 _ _ l1_3 _ _ l1_4 _ _ l1_5 x5_2 t525 _ (C1_1.b HB) (C1_2.b HB) (C1_3.b HB) (C1_4.b HB) (C1_5.b HB) A15.out) fun w19 hb => ?_)
      replace BK522 := zY BK522 hb; replace HB := zX HB hb
      refine hK.out _ _ (ca6_ BK522.out ((kC HB hw526_0))) (fun hHeld => ?_)
      clear hK K
      refine nZ 33 ?_
      refine qa 8 7 255 ?_
      refine qd ?_
      try go_wp2
      go_ret
      exact ⟨kE, kR1 HB⟩
     have c17b0 : decide ((rd l0 x5_2) < t525) = false := zS c17; clear c17
     have H' := yD H
     clear H
     try go_wp2
     replace BK522 := yD (yO BK522.out); replace HB := yD (yP HB.out)
     obtain ⟨p526, q526, ad526, e526, hx526_0⟩ := sI (Kd.aX C0.r x5_2)
     have hw526_0 := hx526_0; cases e526
     replace hx526_0 := kD HB hx526_0
     refine s0 (m := 8) (S := fun w' => cl w' gb522 0 (.int .i64 a1_0) ∧ cl w' gb522 1 (.slice A1_1 l1_1.length c1_1) ∧ cl w' gb522 2 (.slice A1_2 l1_2.length c1_2) ∧ cl w' gb522 3 (.slice A1_3 l1_3.length c1_3) ∧ cl w' gb522 4 (.slice A1_4 l1_4.length c1_4) ∧ cl w' gb522 5 (.slice A1_5 l1_5.length c1_5) ∧ w'.cell? (ad526.add (x5_2).toNat) = some (.int .i64 (rd l0 x5_2))) bA.tab10 bA.bits10 (ca6_ BK522.out ((kC HB hw526_0))) fun hHeld HT_ HW_ => ?_
     generalize wr.drew = w20 at BK522 HB hx526_0 hHeld ⊢
     refine qa 8 1 2 ?_; refine qa 8 3 10 ?_; refine qa 8 4 26 ?_; refine qa 8 5 58 ?_; refine qc 8 0 59 hHeld ?_; refine qc 8 6 123 hHeld ?_
     refine qo 8 2 127 (some 33) fun K hK => ?_
     refine qg Try.func54 _ (dn (spec_l06End.calls a1_0 _ _ l1_1 _ _ l1_2 _ _ l1_3 _ _ l1_4 _ _ l1_5 x5_2 t525 _ (C1_1.b HB) (C1_2.b HB) (C1_3.b HB) (C1_4.b HB) (C1_5.b HB) A15.out) fun w21 hb => ?_)
     replace BK522 := zY BK522 hb; replace HB := zX HB hb
     refine hK.out _ _ (ca6_ BK522.out ((kC HB hw526_0))) (fun hHeld => ?_)
     clear hK K
     refine nZ 33 ?_
     refine qa 8 7 255 ?_
     refine qd ?_
     try go_wp2
     go_roundg k2
     case measure => have := HJ2.out; have := HK2.out; omega
     case rel => exact ⟨(wrap64 (x5_2 + 1)), kF, H', ⟨by have := HJ2.out; have := HK2.out; omega⟩, ⟨kM BK522⟩, ⟨kR1 HB⟩⟩
def spec_l00Own.f (l0 : List Int) : Option (List Int) := (some (([] : List Int) : List Int)).bind fun y529 => (if y529.length + l0.length < 17592186044416 then (some (y529 ++ l0)) else (none))
theorem spec_l00Own.calls (A0 : Option Addr) (c0 : Nat) (l0 : List Int) (r : List Int) (w : World) (C0 : Cm (Kd.int .i64) w A0 c0 l0) (h : spec_l00Own.f l0 = some r) :
 Calls Try.prog 55 #[.slice A0 l0.length c0] w fun e w' => ∃ v0_ : Value, e = .returned (v0_) ∧ Kd.R (Kd.int .i64) 2 w' w.heap.size (fun _ => True) v0_ r ∧ Below w.heap.size w w' := by
 have HB := yD (Below.refl w.heap.size w)
 unfold spec_l00Own.f at h
 have H := h
 clear h
 obtain ⟨y529, hy529⟩ : ∃ y_ : List Int, y_ = (([] : List Int)) := ⟨_, rfl⟩
 replace H : (if y529.length + l0.length < 17592186044416 then (some (y529 ++ l0)) else (none)) = some r := by first | (rw [hy529]; with_reducible exact H) | (have H2_ := (Option.bind_some _ _).symm.trans H; rw [hy529]; with_reducible exact H2_) | (have H2_ := (Option.bind_some _ _).symm.trans H; with_reducible exact H2_) | with_reducible exact H | (rw [hy529]; exact H) | exact H
 have Ny529 := yD hy529
 clear hy529
 replace ⟨LMc2, H⟩ := sM H
 obtain ⟨y532, hy532⟩ : ∃ y_ : List Int, y_ = (y529 ++ l0) := ⟨_, rfl⟩
 replace H : (some y532) = some r := by first | (rw [hy532]; with_reducible exact H) | (have H2_ := (Option.bind_some _ _).symm.trans H; rw [hy532]; with_reducible exact H2_) | (have H2_ := (Option.bind_some _ _).symm.trans H; with_reducible exact H2_) | with_reducible exact H | (rw [hy532]; exact H) | exact H
 have Ny532 := yD hy532
 clear hy532; obtain rfl := sJ H; go_enter Try.func55, Try.ntmps55
 go_wp2_with (first | (refine gD 3 ?_; refine Kd.R_lit (Kd.int .i64) _ 2 ?hg (N := 3) ?hd (xs := ([] : List Int)) (inner := []) (ok := fun _ => True) (okp := fun _ => True) ?hr ?hp (fun _ hk => hk) trivial (Below.refl _ _) (Nat.le_refl _) (by simp) ?_; (case hd => rfl); (case hg => rfl); (case hr => first | (go_simp; done) | (go_simp; rfl)); (case hp => exact (cW.none _ _)); intro v530 w3 ho4 hb hg_ hnew_; clear hg_ hnew_; (first | rw [← Ny529.out] at ho4 | (simp only [Int.reduceToNat] at ho4; rw [← Ny529.out] at ho4)); have HO531 := yD (yZ ho4 (aD (kB HB))); replace HB := zX HB hb; clear hb ho4) | ((with_reducible refine gate_builtin (b := .append) (xs := #[.tmp 3, .tmp 4]) rfl ?_); at_builtin; refine Kd.R_append_rows (Kd.int .i64) (w0 := w) w.heap.size rfl (.tmp 3) (.tmp 4) 23 2 (.int .i64 0) 8 rfl Try.underlying23 info2 rfl (by decide) (by omega) v530 y529 l0 _ _ _ (fun _ => True) (fun _ => False) rfl rfl ?aO ?aR (fun _ _ h => h) (fun _ h => h.elim) ?aF ?aB ?aS ?aL ?_; (case aR => exact kV (yY C0.r HB.out)); (case aB => exact (kB HB)); (case aF => exact (fun _ _ => trivial)); (case aO => exact (kA HO531)); (case aS => exact (aD (kB HB))); (case aL => have := LMc2.out; omega); intro v533 w5 ho hb hg hat; rw [← Ny532.out] at ho; replace HB := yD (hb); have HO534 := yD (ho); clear HO531; clear ho hb hg hat))
 go_ret
 exact ⟨_, kE, kA HO534, kR0 HB⟩
def spec_l05Index.l0 : Nat → List Int → List Int → Int → Int → Option (Int)
 | 0, _, _, _, _ => none
 | k + 1, x0, x1, x5, x6 => if x6 < (x0.length : Int) then (if 0 ≤ x6 then (if x6 < (x1.length : Int) then (spec_l05Index.l0 k x0 x1 (wrap64 ((wrap64 (x5 * (rd x0 x6))) + (rd x1 x6))) (wrap64 (x6 + 1))) else (none)) else (none)) else (some x5)
def spec_l05Index.f (k : Nat) (l0 l1 : List Int) : Option (Int) := spec_l05Index.l0 k l0 l1 0 0
theorem spec_l05Index.calls (k : Nat) (A0 : Option Addr) (c0 : Nat) (l0 : List Int) (A1 : Option Addr) (c1 : Nat) (l1 : List Int) (r : Int) (w : World) (C0 : Cm (Kd.int .i64) w A0 c0 l0) (C1 : Cm (Kd.int .i64) w A1 c1 l1) (h : spec_l05Index.f k l0 l1 = some r) :
 Calls Try.prog 34 #[.slice A0 l0.length c0, .slice A1 l1.length c1] w fun e w' => e = .returned (.int .i64 r) ∧ aT w w' := by
 unfold spec_l05Index.f at h
 have H := h
 clear h
 have H' := yD H
 clear H; go_enter Try.func34, Try.ntmps34
 go_wp2
 repeat (go_quiet (fail); try go_wp2)
 go_loopg [5, 6] k (fun kq v5 v6 w' => ∃ (x5_1 : Int) (x6_1 : Int), v5 = .int .i64 x5_1 ∧ v6 = .int .i64 x6_1 ∧ aC (spec_l05Index.l0 kq l0 l1 x5_1 x6_1 = some r) ∧ aC (kq ≤ k) ∧ aT w w')
 case atStart => exact ⟨(0), (0), kF, kF, H', ⟨Nat.le_refl _⟩, by repeat (first | exact aT.refl _ | apply aT.step)⟩
 case round =>
  clear H'
  obtain ⟨x5_1, x6_1, rfl, rfl, HA, HK1, ⟨m1, rfl⟩⟩ := hrel
  cases gk with
  | zero => exact absurd HA.out (by simp [spec_l05Index.l0])
  | succ k1 =>
   have H := HA.out; clear HA
   simp only [spec_l05Index.l0] at H
   replace H := sG H; rcases H with ⟨c3b0, H⟩ | ⟨c3b0, H⟩
   · obtain rfl := sJ H
     go_wp2
     repeat (go_quiet (fail); try go_wp2)
     go_ret
     exact ⟨by first | rfl | (simp; done) | (simp [*]; done), by repeat (first | exact aT.refl _ | apply aT.step)⟩
   replace ⟨c4b0, H⟩ := sE H
   replace ⟨c5b0, H⟩ := sE H
   have H' := yD H
   clear H
   obtain ⟨p535, q535, ad535, e535, hx535_0⟩ := sI (Kd.aX C0.r x6_1)
   cases e535
   obtain ⟨p536, q536, ad536, e536, hx536_0⟩ := sI (Kd.aX C1.r x6_1)
   cases e536
   go_wp2
   repeat (go_quiet (fail); try go_wp2)
   go_roundg k1
   case measure => have := HK1.out; omega
   case rel => exact ⟨(wrap64 ((wrap64 (x5_1 * (rd l0 x6_1))) + (rd l1 x6_1))), (wrap64 (x6_1 + 1)), kF, kF, H', ⟨by have := HK1.out; omega⟩, by repeat (first | exact aT.refl _ | apply aT.step)⟩
end Go.Proofs.Ytkkdkeogplgkfaa.PFnSelectedBoxes
