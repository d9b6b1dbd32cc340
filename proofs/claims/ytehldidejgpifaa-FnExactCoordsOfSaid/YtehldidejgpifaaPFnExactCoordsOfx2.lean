/- Each Go function here comes to what the plain function of its name says, where that says something. Made by a program of this session, over the print. -/
import Derived.Test.YtehldidejgpifaaPFnExactCoordsOfx0
import Derived.Test.YtehldidejgpifaaPFnExactCoordsOfx1
namespace Go.Proofs.Ytehldidejgpifaa.PFnExactCoordsOf
open Go.RowKit Go.Proofs.YtehldidejgpifaaW.PrintWords Go.Proofs.YtehldidejgpifaaW.PrintLast Go.Proofs.YtehldidejgpifaaW.PrintMore
attribute [local go_sem] max2_int min2_int max_two min_two max_three min_three max_four min_four   -- for this text's walks alone
set_option linter.unusedVariables false
set_option linter.unusedSimpArgs false

/-! ### impl_product: function 61 -/
def impl_product.l0 : Nat → Int → List Int → Int → Int → Option (Int)
  | 0, _, _, _, _ => none
  | k + 1, x3, x6, x7, x8 => if x8 < x7 then (if 0 ≤ x8 then (if x8 < (x6.length : Int) then (impl_product.l0 k (wrap64 (x3 * (rd x6 x8))) x6 x7 (wrap64 (x8 + 1))) else (none)) else (none)) else (some x3)
def impl_product.f (k : Nat) (l0 : List Int) : Option (Int) := impl_product.l0 k 1 l0 (l0.length : Int) 0
theorem impl_product.mono_l : ∀ k, (∀ y0 y1 y2 y3, LeO (impl_product.l0 k y0 y1 y2 y3) (impl_product.l0 (k + 1) y0 y1 y2 y3))
  | 0 => fun _ _ _ _ r h => by simp [impl_product.l0] at h
  | k + 1 => by
    have ih0 := impl_product.mono_l k
    · intro y0 y1 y2 y3
      unfold impl_product.l0
      repeat' first
      | (with_reducible exact ih0 _ _ _ _)
      | (with_reducible exact LeO.refl _)
      | (with_reducible exact LeO.none _)
      | (with_reducible refine LeO.ite ?_ ?_)
      | (with_reducible refine LeO.bind ?_ (fun _ => ?_))
      | exact ih0 _ _ _ _
      | exact LeO.none _
      | refine LeO.ite ?_ ?_
      | refine LeO.bind ?_ (fun _ => ?_)
theorem impl_product.mono : ∀ a0 k, LeO (impl_product.f k a0) (impl_product.f (k + 1) a0) := by
  intro a0 k
  have ih0 := impl_product.mono_l k
  unfold impl_product.f
  repeat' first
      | (with_reducible exact ih0 _ _ _ _)
      | (with_reducible exact LeO.refl _)
      | (with_reducible exact LeO.none _)
      | (with_reducible refine LeO.ite ?_ ?_)
      | (with_reducible refine LeO.bind ?_ (fun _ => ?_))
      | exact ih0 _ _ _ _
      | exact LeO.none _
      | refine LeO.ite ?_ ?_
      | refine LeO.bind ?_ (fun _ => ?_)
set_option maxHeartbeats 8000000 in
set_option maxRecDepth 100000 in
theorem impl_product.calls (k : Nat) (A0 : Option Addr) (c0 : Nat) (l0 : List Int) (r : Int) (w : World) (hr0 : Kd.C (Kd.int .i64) w A0 l0.length l0) (hc0 : l0.length ≤ c0) (h : impl_product.f k l0 = some r) :
    Calls Try.prog 61 #[.slice A0 l0.length c0] w fun e w' => e = .returned (.int .i64 r) ∧ Drawn0 w w' := by
  have HR0 := Aside0.mk hr0
  have HC0 := Aside0.mk hc0
  clear hr0 hc0
  have H : (impl_product.l0 k 1 l0 (l0.length : Int) 0) = some r := h
  clear h
  have H' := Aside0.mk H
  clear H
  go_enter Try.func61, Try.ntmps61
  go_wp2
  go_loopg [3, 8] k (fun kq v3 v8 w' => ∃ (x3_1 : Int) (x8_1 : Int), v3 = .int .i64 x3_1 ∧ v8 = .int .i64 x8_1 ∧ Aside0 (impl_product.l0 kq x3_1 l0 (l0.length : Int) x8_1 = some r) ∧ Aside0 (kq ≤ k) ∧ Drawn0 w w')
  case atStart => exact ⟨(1), (0), (by first | rfl | (simp; done) | (simp [*]; done)), (by first | rfl | (simp; done) | (simp [*]; done)), H', ⟨Nat.le_refl _⟩, by repeat (first | exact Drawn0.refl _ | apply Drawn0.step)⟩
  case round =>
    clear H'
    obtain ⟨x3_1, x8_1, rfl, rfl, HA, HK1, ⟨m1, rfl⟩⟩ := hrel
    cases gk with
    | zero => exact absurd HA.out (by simp [impl_product.l0])
    | succ k1 =>
      have H := HA.out
      clear HA
      simp only [impl_product.l0] at H
      by_cases c2 : x8_1 < (l0.length : Int)
      · rw [if_pos c2] at H
        have c2b0 : decide (x8_1 < (l0.length : Int)) = true := decide_eq_true c2
        clear c2
        by_cases c3 : 0 ≤ x8_1
        · rw [if_pos c3] at H
          have c3b0 : decide (0 ≤ x8_1) = true := decide_eq_true c3
          clear c3
          by_cases c4 : x8_1 < (l0.length : Int)
          · rw [if_pos c4] at H
            have c4b0 : decide (x8_1 < (l0.length : Int)) = true := decide_eq_true c4
            clear c4
            have H' := Aside0.mk H
            clear H
            have p129 : 0 ≤ (x8_1 : Int) := of_decide_eq_true (by first | (with_reducible assumption) | assumption)
            have q129 : x8_1 < (l0.length : Int) := of_decide_eq_true (by first | (with_reducible assumption) | assumption)
            obtain ⟨ad129, e129, hx129_0⟩ := Kd.at_int HR0.out x8_1 p129 q129
            cases e129
            replace p129 := eq_true p129
            replace q129 := eq_true q129
            go_wp2
            go_roundg k1
            case measure => have := HK1.out; omega
            case rel => exact ⟨(wrap64 (x3_1 * (rd l0 x8_1))), (wrap64 (x8_1 + 1)), (by first | rfl | (simp; done) | (simp [*]; done)), (by first | rfl | (simp; done) | (simp [*]; done)), H', ⟨by have := HK1.out; omega⟩, by repeat (first | exact Drawn0.refl _ | apply Drawn0.step)⟩
          · rw [if_neg c4] at H
            exact absurd H (by simp)
        · rw [if_neg c3] at H
          exact absurd H (by simp)
      · rw [if_neg c2] at H
        have c2b0 : decide (x8_1 < (l0.length : Int)) = false := decide_eq_false c2
        clear c2
        obtain rfl := Option.some.inj H
        go_wp2
        go_ret
        exact ⟨by first | rfl | (simp; done) | (simp [*]; done), by repeat (first | exact Drawn0.refl _ | apply Drawn0.step)⟩

/-! ### impl_ValidDims: function 59 -/
def impl_ValidDims.f (k : Nat) (l0 : List Int) : Option (Bool) := if (l0.length : Int) ≤ 3 then ((impl_allWithin.f k l0 0 40).bind fun t130 => (if t130 = true then ((impl_product.f k l0).bind fun t131 => (some (decide (t131 ≤ 600)))) else (some false))) else (some false)
theorem impl_ValidDims.mono : ∀ a0 k, LeO (impl_ValidDims.f k a0) (impl_ValidDims.f (k + 1) a0) := by
  intro a0 k
  unfold impl_ValidDims.f
  repeat' first
      | (with_reducible exact impl_allWithin.mono _ _ _ _)
      | (with_reducible exact impl_product.mono _ _)
      | (with_reducible exact LeO.refl _)
      | (with_reducible exact LeO.none _)
      | (with_reducible refine LeO.ite ?_ ?_)
      | (with_reducible refine LeO.bind ?_ (fun _ => ?_))
      | exact impl_allWithin.mono _ _ _ _
      | exact impl_product.mono _ _
      | exact LeO.none _
      | refine LeO.ite ?_ ?_
      | refine LeO.bind ?_ (fun _ => ?_)
set_option maxHeartbeats 8000000 in
set_option maxRecDepth 100000 in
theorem impl_ValidDims.calls (k : Nat) (A0 : Option Addr) (c0 : Nat) (l0 : List Int) (r : Bool) (w : World) (hr0 : Kd.C (Kd.int .i64) w A0 l0.length l0) (hc0 : l0.length ≤ c0) (h : impl_ValidDims.f k l0 = some r) :
    Calls Try.prog 59 #[.slice A0 l0.length c0] w fun e w' => e = .returned (.bool r) ∧ Below w.heap.size w w' := by
  have HR0 := Aside0.mk hr0
  have HC0 := Aside0.mk hc0
  clear hr0 hc0
  have HB := Aside0.mk (Below.refl w.heap.size w)
  have H : (if (l0.length : Int) ≤ 3 then ((impl_allWithin.f k l0 0 40).bind fun t130 => (if t130 = true then ((impl_product.f k l0).bind fun t131 => (some (decide (t131 ≤ 600)))) else (some false))) else (some false)) = some r := h
  clear h
  by_cases c2 : (l0.length : Int) ≤ 3
  · rw [if_pos c2] at H
    have c2b0 : decide ((l0.length : Int) ≤ 3) = true := decide_eq_true c2
    have c2b1 : decide (l0.length ≤ 3) = true := decide_eq_true (by omega)
    clear c2
    replace H := Option.bind_eq_some_iff.mp H
    obtain ⟨t130, A30, H⟩ := H
    replace H : (if t130 = true then ((impl_product.f k l0).bind fun t131 => (some (decide (t131 ≤ 600)))) else (some false)) = some r := H
    have A3 := Aside0.mk A30
    clear A30
    by_cases c4 : t130 = true
    · subst c4
      have H1 : ((impl_product.f k l0).bind fun t131 => (some (decide (t131 ≤ 600)))) = some r := by rw [if_pos rfl] at H; exact H
      clear H
      have H := H1
      clear H1
      replace H := Option.bind_eq_some_iff.mp H
      obtain ⟨t131, A50, H⟩ := H
      replace H : (some (decide (t131 ≤ 600))) = some r := H
      have A5 := Aside0.mk A50
      clear A50
      obtain rfl := Option.some.inj H
      go_enter Try.func59, Try.ntmps59
      go_wp2_with (first | (go_at_call 102; (with_reducible refine (impl_allWithin.calls k _ _ l0 0 40 true _ ?side1 ?side2 A3.out).mono ?_); (case side1 => repeat (first | exact HR0.out | (with_reducible refine Kd.C_alloc ?_ _) | (with_reducible refine Kd.C_drewN ?_ _) | (with_reducible refine Kd.C_drew ?_))); (case side2 => exact HC0.out); rintro e w6 ⟨rfl, hb⟩; have n0_ := Aside0.mk (below_step (by repeat (first | (with_reducible first | exact HB.out | apply below_alloc | apply pw_below_drewN | apply below_drew1) | exact HB.out)) hb); clear HB; have HB := n0_; clear n0_; (try clear hb); (try clear hb2); (try clear hk); (try clear hi)) | (go_at_call 61; (with_reducible refine (impl_product.calls k _ _ l0 t131 _ ?side1 ?side2 A5.out).mono ?_); (case side1 => repeat (first | exact (Kd.C_below HR0.out HB.out) | (with_reducible refine Kd.C_alloc ?_ _) | (with_reducible refine Kd.C_drewN ?_ _) | (with_reducible refine Kd.C_drew ?_))); (case side2 => exact HC0.out); rintro e w' ⟨rfl, ⟨nd, rfl⟩⟩))
      go_ret
      exact ⟨by first | rfl | (simp [errW_none, errW_some] <;> rfl) | (simp [*, errW_none, errW_some] <;> rfl), by repeat (first | (with_reducible first | exact HB.out | apply below_alloc | apply pw_below_drewN | apply below_drew1) | exact HB.out)⟩
    · replace c4 := Bool.eq_false_iff.mpr c4
      subst c4
      have H1 : (some false) = some r := by rw [if_neg (show ¬ (false = true) by decide)] at H; exact H
      clear H
      have H := H1
      clear H1
      obtain rfl := Option.some.inj H
      go_enter Try.func59, Try.ntmps59
      go_wp2_with (first | (go_at_call 102; (with_reducible refine (impl_allWithin.calls k _ _ l0 0 40 false _ ?side1 ?side2 A3.out).mono ?_); (case side1 => repeat (first | exact HR0.out | (with_reducible refine Kd.C_alloc ?_ _) | (with_reducible refine Kd.C_drewN ?_ _) | (with_reducible refine Kd.C_drew ?_))); (case side2 => exact HC0.out); rintro e w7 ⟨rfl, hb⟩; have n0_ := Aside0.mk (below_step (by repeat (first | (with_reducible first | exact HB.out | apply below_alloc | apply pw_below_drewN | apply below_drew1) | exact HB.out)) hb); clear HB; have HB := n0_; clear n0_; (try clear hb); (try clear hb2); (try clear hk); (try clear hi)))
      go_ret
      exact ⟨by first | rfl | (simp [errW_none, errW_some] <;> rfl) | (simp [*, errW_none, errW_some] <;> rfl), by repeat (first | (with_reducible first | exact HB.out | apply below_alloc | apply pw_below_drewN | apply below_drew1) | exact HB.out)⟩
  · rw [if_neg c2] at H
    have c2b0 : decide ((l0.length : Int) ≤ 3) = false := decide_eq_false c2
    have c2b1 : decide (l0.length ≤ 3) = false := decide_eq_false (by omega)
    clear c2
    obtain rfl := Option.some.inj H
    go_enter Try.func59, Try.ntmps59
    go_wp2
    go_ret
    exact ⟨by first | rfl | (simp [errW_none, errW_some] <;> rfl) | (simp [*, errW_none, errW_some] <;> rfl), by repeat (first | (with_reducible first | exact HB.out | apply below_alloc | apply pw_below_drewN | apply below_drew1) | exact HB.out)⟩

/-! ### impl_coordsOf: function 62 -/
section
attribute [local go_sem] Oper.semAt_some
abbrev impl_coordsOf.ez (zs : List Int) (j : Fin zs.length) : Array Value := #[.int .i64 ((zs.length : Int) - 1 - (j.val : Int)), .int .i64 (zs[zs.length - 1 - j.val]?.getD 0)]
def impl_coordsOf.upto (zs : List Int) (k : Nat) : List (Fin zs.length) := (List.finRange zs.length).take k
theorem impl_coordsOf.upto_succ (zs : List Int) (k : Nat) (h : k < zs.length) : impl_coordsOf.upto zs (k + 1) = impl_coordsOf.upto zs k ++ [⟨k, h⟩] := by
  unfold impl_coordsOf.upto
  rw [List.take_succ_eq_append_getElem (by simpa using h)]
  simp
theorem impl_coordsOf.upto_length (zs : List Int) (k : Nat) (h : k ≤ zs.length) : (impl_coordsOf.upto zs k).length = k := by simp [impl_coordsOf.upto, h]
/-- What a round keeps: what lay below n₀, and the block Bs, where it is cells. -/
def impl_coordsOf.Kp (n₀ Bs : Nat) (W W' : World) : Prop := Below n₀ W W' ∧ ∀ cs t fr, W.heap[Bs]? = some (.cells cs t fr) → W'.heap[Bs]? = some (.cells cs t fr)
set_option maxRecDepth 100000 in
set_option maxHeartbeats 2000000 in
theorem impl_coordsOf.back1 (F : Fence) (n : Nat) (h8 : F.fn 131) (hro : F.round = none) (hn : 1 ≤ n) (l Bs n₀ cap : Nat) (A : Option Addr) (zs : List Int) (hreach : zs.length ≤ 1048576) (J Jx : List (Fin zs.length) → World → Prop)
    (hY : ∀ pre x W, J pre W → pre.length < zs.length → YieldAt F (n - 1) Try.prog l (impl_coordsOf.ez zs x) W fun e W' =>
      (e = .returned (.bool true) ∧ J (pre ++ [x]) W' ∧ impl_coordsOf.Kp n₀ Bs W W') ∨ (e = .returned (.bool false) ∧ Jx (pre ++ [x]) W'))
    (W : World) (hBs : W.heap[Bs]? = some (.cells #[.slice A zs.length cap] 27 (0, 0))) (hc : ∀ j, j < zs.length → ∃ ad : Addr, A = some ad ∧ W.cell? (ad.add j) = some (.int .i64 (zs[j]?.getD 0)) ∧ ad.block < n₀) (h0 : J [] W) :
    CallsIn F n Try.prog 131 #[.func (.yield l) #[] #[], .pointer (some ⟨Bs, 0, none⟩)] W fun e W' => (∃ v, e = .returned v) ∧
      ((∃ ys, ys = impl_coordsOf.upto zs zs.length ∧ J ys W') ∨ (∃ pre, (∃ k, k ≤ zs.length ∧ pre = impl_coordsOf.upto zs k) ∧ Jx pre W')) := by
  have hbx : ∀ W' : World, W'.heap[Bs]? = some (.cells #[.slice A zs.length cap] 27 (0, 0)) → W'.cell? ⟨Bs, 0, none⟩ = some (.slice A zs.length cap) := fun W' h => by simp [World.cell?, h]
  have hb0 := hbx W hBs
  refine callsIn_of_wp Try.func131 rfl h8 ?_ hro
  simp only [Try.ntmps131, List.size_toArray, List.length_cons, List.length_nil, Nat.reduceAdd, Nat.reduceSub, Array.replicate_succ, Array.replicate_zero, List.push_toArray, List.append_toArray, List.nil_append, List.cons_append]
  gi_wp2
  gi_loopw [3] (fun i wr => ∃ k : Nat, k ≤ zs.length ∧ i = .int .i64 ((zs.length : Int) - 1 - k) ∧ J (impl_coordsOf.upto zs k) wr ∧ impl_coordsOf.Kp n₀ Bs W wr)
    (fun i _ => (intOf i + 1).toNat)
  case atStart => exact ⟨0, Nat.zero_le _, by simp, by simpa [impl_coordsOf.upto] using h0, Below.refl _ _, fun _ _ _ h => h⟩
  case round =>
    obtain ⟨k, hk, rfl, hJs, hnx⟩ := hrel
    have hb1 := hbx wr (hnx.2 _ _ _ hBs)
    by_cases hlt : k < zs.length
    · obtain ⟨ad, rfl, had, hadb⟩ := hc (zs.length - 1 - k) (by omega)
      have hcx := (hnx.1.cell (p := ad.add (zs.length - 1 - k)) (by unfold Addr.add; split <;> exact hadb)).trans had
      obtain ⟨fn, tmps, assign, body, hy, hR⟩ := hY _ ⟨k, hlt⟩ wr hJs (by rw [impl_coordsOf.upto_length _ _ hk]; exact hlt)
      dsimp only [impl_coordsOf.ez] at hy
      have hge : (0 : Int) ≤ (zs.length : Int) - 1 - k := by omega
      have hlt2 : (zs.length : Int) - 1 - k < zs.length := by omega
      have htn : ((zs.length : Int) - 1 - k).toNat = zs.length - 1 - k := by omega
      gi_wp2
      refine hR.mono ?_
      rintro e W3 (⟨rfl, hJ3, hk3⟩ | ⟨rfl, hJx3⟩)
      · gi_wp2
        go_roundw
        case rel => exact ⟨k + 1, by omega, by first | rfl | (congr 1; omega) | (simp; omega), by rw [impl_coordsOf.upto_succ _ _ hlt]; exact hJ3, hnx.1.trans hk3.1, fun cs t fr h => hk3.2 _ _ _ (hnx.2 _ _ _ h)⟩
        case measure => simp [intOf]; omega
      · gi_wp2
        refine bodyPost_ret (results_none rfl _ _ _) rfl ?_
        exact ⟨⟨_, rfl⟩, .inr ⟨_, ⟨k + 1, by omega, (impl_coordsOf.upto_succ _ _ hlt).symm⟩, hJx3⟩⟩
    · obtain rfl : k = zs.length := by omega
      gi_wp2
      go_end0
      exact ⟨⟨_, rfl⟩, .inl ⟨_, rfl, hJs⟩⟩
set_option maxRecDepth 100000 in
set_option maxHeartbeats 1000000 in
theorem impl_coordsOf.back (F : Fence) (n : Nat) (h6 : F.fn 103) (hro : F.round = none) (a : Option Addr) (len cap : Nat) (w : World) :
    CallsIn F n Try.prog 103 #[.slice a len cap] w fun e w' => e = .returned (.func (.func 131) #[] #[.pointer (some ⟨w.heap.size, 0, none⟩)]) ∧ w' = w.alloc (.cells #[.slice a len cap] 27) := by
  refine callsIn_of_wp Try.func103 rfl h6 ?_ hro
  simp only [Try.ntmps103, List.size_toArray, List.length_cons, List.length_nil, Nat.reduceAdd, Nat.reduceSub, Array.replicate_succ, Array.replicate_zero, List.push_toArray, List.append_toArray, List.nil_append, List.cons_append]
  gi_wp2
  go_ret
  exact ⟨rfl, rfl⟩
theorem impl_coordsOf.stops (F : Fence) (n : Nat) (h8 : F.fn 131) (hro : F.round = none) (hn : 1 ≤ n) (Bs n₀ cap : Nat) (A : Option Addr) (zs : List Int) (hreach : zs.length ≤ 1048576) (w : World) (hBs : w.heap[Bs]? = some (.cells #[.slice A zs.length cap] 27 (0, 0))) (hn₀ : n₀ ≤ w.heap.size)
    (hc : ∀ j, j < zs.length → ∃ ad : Addr, A = some ad ∧ w.cell? (ad.add j) = some (.int .i64 (zs[j]?.getD 0)) ∧ ad.block < n₀) :
    SeqStopsK F n Try.prog 131 #[.pointer (some ⟨Bs, 0, none⟩)] (impl_coordsOf.ez zs) (impl_coordsOf.Kp n₀ Bs) (fun ys => ys = impl_coordsOf.upto zs zs.length) (fun pre => ∃ k, k ≤ zs.length ∧ pre = impl_coordsOf.upto zs k) zs.length w := fun l J Jx W hW _ _ hY h0 =>
  impl_coordsOf.back1 F n h8 hro hn l Bs n₀ cap A zs hreach J Jx hY W ((hW.block Bs (Array.getElem?_eq_some_iff.1 hBs).1).trans hBs) (fun j hj => by
    obtain ⟨ad, h1, h2, h3⟩ := hc j hj
    exact ⟨ad, h1, (hW.cell (p := ad.add j) (by unfold Addr.add; split <;> exact Nat.lt_of_lt_of_le h3 hn₀)).trans h2, h3⟩) h0
theorem impl_coordsOf.Kp_t {n₀ Bs : Nat} {A B C : World} (h : impl_coordsOf.Kp n₀ Bs A B) (h' : impl_coordsOf.Kp n₀ Bs B C) : impl_coordsOf.Kp n₀ Bs A C := ⟨h.1.trans h'.1, fun cs t fr e => h'.2 _ _ _ (h.2 _ _ _ e)⟩
theorem impl_coordsOf.Kp_b {n₀ Bs : Nat} {w : World} (hn : n₀ ≤ w.heap.size) (W : World) (l : Nat) (o o' : Obj) (hl : w.heap.size ≤ l) (ho : W.heap[l]? = some o) (hc : o.isCells = false) (hw : o.isWalk = false) : impl_coordsOf.Kp n₀ Bs W (W.putObj l o') :=
  ⟨belowK_b hn W l o o' hl ho hc hw, fun cs t fr e => by
    have hne : Bs ≠ l := by
      rintro rfl
      rw [e] at ho
      injection ho with ho
      subst ho
      cases hc
    exact (World.putObj_heap_other hne).trans e⟩
def impl_coordsOf.step (zs : List Int) (st : Int × List Int) (j : Nat) : Int × List Int := (wrap64 (Int.tdiv st.1 (zs[zs.length - 1 - j]?.getD 0)), st.2.set (zs.length - 1 - j) (Int.tmod st.1 (zs[zs.length - 1 - j]?.getD 0)))
def impl_coordsOf.run (zs : List Int) (a : Int) (pre : List Nat) : Int × List Int := pre.foldl (impl_coordsOf.step zs) (a, List.replicate zs.length 0)
theorem impl_coordsOf.run_length (zs : List Int) (a : Int) (pre : List Nat) : (impl_coordsOf.run zs a pre).2.length = zs.length := by
  unfold impl_coordsOf.run
  suffices h : ∀ (st : Int × List Int), st.2.length = zs.length → (pre.foldl (impl_coordsOf.step zs) st).2.length = zs.length from h _ (by simp)
  induction pre with
  | nil => intro st h; exact h
  | cons x pre ih => intro st h; exact ih _ (by simp [impl_coordsOf.step, h])
theorem impl_coordsOf.run_snoc (zs : List Int) (a : Int) (pre : List Nat) (j : Nat) : impl_coordsOf.run zs a (pre ++ [j]) = impl_coordsOf.step zs (impl_coordsOf.run zs a pre) j := by simp [impl_coordsOf.run]
def impl_coordsOf.f (l0 : List Int) (a1 : Int) : Option (List Int) := if l0.length ≤ 1048576 ∧ ∀ x ∈ l0, x ≠ 0 then some (impl_coordsOf.run l0 a1 (List.range l0.length)).2 else none
theorem impl_coordsOf.info : (Try.prog.info? 2).map (fun i => (i.zero, i.size, i.bytes)) = some (some (.int .i64 0), 1, 8) := by kernel_rfl
theorem impl_coordsOf.made (n : Nat) : madeCells #[Value.int .i64 0] n = ((List.replicate n 0).map (Value.int .i64)).toArray := by
  apply Array.ext
  · simp [madeCells]
  · intro i h1 h2
    simp [madeCells, Nat.mod_one]
/-- The row g holds xs. -/
def impl_coordsOf.Row (g : Nat) (xs : List Int) (W : World) : Prop := W.heap[g]? = some (.cells (xs.map (Value.int .i64)).toArray 2 (0, 0))
theorem impl_coordsOf.Row.set {g : Nat} {xs : List Int} {W : World} (h : impl_coordsOf.Row g xs W) (i : Nat) (x : Int) : impl_coordsOf.Row g (xs.set i x) (W.setCell ⟨g, i, none⟩ (.int .i64 x)) := by
  unfold impl_coordsOf.Row at h ⊢
  rw [setCell_eq_setRow W g i _ 2 (0, 0) _ h, setRow_heap W g _ _ 2 (0, 0) h]
  simp [List.map_set]
theorem impl_coordsOf.Row.kept {g : Nat} {xs : List Int} {W W' : World} {row : Option Nat} (h : impl_coordsOf.Row g xs W) (hg : W.grownBy W' row) (hne : some g ≠ row) : impl_coordsOf.Row g xs W' :=
  (hg.block g (Array.getElem?_eq_some_iff.1 h).1 hne).trans h
theorem impl_coordsOf.ko_drew (W : World) : KeepsOthers W W.drew := ⟨Nat.le_refl _, fun _ _ h _ => h⟩
theorem impl_coordsOf.cells_ne {W : World} {row : Option Nat} {B k : Nat} {cs : Array Value} {t : TypeId} {fr : Nat × Nat} (h : W.heap[k]? = some (.cells cs t fr)) (hr : ∀ r, row = some r → B ≤ r ∧ ∃ o : Obj, W.heap[r]? = some o ∧ o.isCells = false) : some k ≠ row := by
  rintro rfl
  obtain ⟨_, o, ho, hc⟩ := hr k rfl
  rw [h] at ho
  injection ho with ho
  subst ho
  cases hc
set_option maxRecDepth 100000 in
set_option maxHeartbeats 4000000 in
theorem impl_coordsOf.main (F : Fence) (n : Nat) (h3 : F.fn 62) (h5 : F.fn 103) (h7 : F.fn 131) (hro : F.round = none) (hn : 3 ≤ n) (A0 : Option Addr) (c0 : Nat) (l0 : List Int) (a1 : Int) (w : World) (hr0 : Kd.C (Kd.int .i64) w A0 l0.length l0) (hlen : l0.length ≤ 1048576) (hnz : ∀ x ∈ l0, x ≠ 0) :
    CallsIn F n Try.prog 62 #[.slice A0 l0.length c0, .int .i64 a1] w fun e w' => ∃ v0_ : Value, e = .returned (v0_) ∧ Kd.R (Kd.int .i64) 2 w' w.heap.size (fun _ => True) v0_ (impl_coordsOf.run l0 a1 (List.range l0.length)).2 ∧ Below w.heap.size w w' := by
  have hc : ∀ j, j < l0.length → ∃ ad : Addr, A0 = some ad ∧ w.cell? (ad.add j) = some (.int .i64 (l0[j]?.getD 0)) ∧ ad.block < w.heap.size := fun j hj => by
    obtain ⟨ad, h1, h2⟩ := Kd.at_int hr0 (j : Int) (by omega) (by omega)
    rw [Int.toNat_natCast] at h2
    refine ⟨ad, h1, by rw [h2]; simp [rd], ?_⟩
    have h3 := World.block_lt_of_cell? w _ h2
    unfold Addr.add at h3
    split at h3 <;> exact h3
  clear hr0
  obtain ⟨i0, hi, hz⟩ := Option.map_eq_some_iff.1 impl_coordsOf.info
  simp only [Prod.mk.injEq] at hz
  obtain ⟨hz0, hz1, hz2⟩ := hz
  have hmk := run_make (P := Try.prog) (w.alloc (.cells #[.int .i64 a1] 2)) 27 2 i0 (.int .i64 0) Try.underlying27 hi hz0 .i64 .i64 (l0.length : Int) (l0.length : Int) (by omega) (by omega) (by rw [hz2]; omega) (by omega)
  rw [hz1, Int.toNat_natCast, Nat.mul_one, show (Value.int .i64 0).cells = #[Value.int .i64 0] from rfl, impl_coordsOf.made, World.size_alloc] at hmk
  have h1 : 1 ≤ n := by omega
  have hrep : ((List.replicate l0.length 0).map (Value.int .i64)).toArray = Array.replicate l0.length (Value.int .i64 0) := by simp
  rw [hrep] at hmk
  refine callsIn_of_wp_marks Try.func62 rfl h3 ?_ hro
  simp only [Try.ntmps62, List.size_toArray, List.length_cons, List.length_nil, Nat.reduceAdd, Nat.reduceSub, Array.replicate_succ, Array.replicate_zero, List.push_toArray, List.append_toArray, List.nil_append, List.cons_append]
  gi_wp2_with (gi_at_call 103; refine (impl_coordsOf.back F (n - 1) h5 hro _ _ _ _).mono ?_; rintro e w' ⟨rfl, rfl⟩)
  obtain ⟨W4, hW4⟩ : ∃ W4, ((((w.alloc (Obj.cells #[Value.int IntKind.i64 a1] 2)).alloc (Obj.cells (Array.replicate l0.length (Value.int IntKind.i64 0)) 2)).alloc (Obj.cells #[Value.slice (some { block := w.heap.size + 1, off := 0 }) l0.length l0.length] 27)).alloc (Obj.cells #[Value.slice A0 l0.length c0] 27)) = W4 := ⟨_, rfl⟩
  have hsz : W4.heap.size = w.heap.size + 4 := by rw [← hW4]; simp
  have e0 : Boxed W4 w.heap.size 2 (.int .i64 a1) := by rw [← hW4]; exact (((Boxed.new w 2 _).alloc _).alloc _).alloc _
  have e1 : impl_coordsOf.Row (w.heap.size + 1) (List.replicate l0.length 0) W4 := by
    unfold impl_coordsOf.Row
    rw [← hW4, hrep]
    have h := World.alloc_heap_new (w.alloc (Obj.cells #[Value.int IntKind.i64 a1] 2)) (Obj.cells (Array.replicate l0.length (Value.int IntKind.i64 0)) 2)
    rw [World.size_alloc] at h
    exact (Below.heap_alloc _ _ _ (by simp)).trans ((Below.heap_alloc _ _ _ (by simp)).trans h)
  have e2 : Boxed W4 (w.heap.size + 1 + 1) 27 (.slice (some ⟨w.heap.size + 1, 0, none⟩) l0.length l0.length) := by
    rw [← hW4]
    have h := Boxed.new ((w.alloc (Obj.cells #[Value.int IntKind.i64 a1] 2)).alloc (Obj.cells (Array.replicate l0.length (Value.int IntKind.i64 0)) 2)) 27 (.slice (some ⟨w.heap.size + 1, 0, none⟩) l0.length l0.length)
    rw [World.size_alloc, World.size_alloc] at h
    exact h.alloc _
  have e3 : W4.heap[w.heap.size + 1 + 1 + 1]? = some (.cells #[.slice A0 l0.length c0] 27 (0, 0)) := by
    rw [← hW4]
    have h := World.alloc_heap_new (((w.alloc (Obj.cells #[Value.int IntKind.i64 a1] 2)).alloc (Obj.cells (Array.replicate l0.length (Value.int IntKind.i64 0)) 2)).alloc (Obj.cells #[Value.slice (some { block := w.heap.size + 1, off := 0 }) l0.length l0.length] 27)) (Obj.cells #[Value.slice A0 l0.length c0] 27)
    rw [World.size_alloc, World.size_alloc, World.size_alloc] at h
    exact h
  have eB : Below w.heap.size w W4 := by rw [← hW4]; exact ((((Below.refl _ w).alloc (Nat.le_refl _) _).alloc (by simp) _).alloc (by simp; omega) _).alloc (by simp; omega) _
  rw [hW4]
  clear hmk hW4
  refine wpIn_rangeFunc_ownG hro h1 (gf := 131) (lb := #[.pointer (some ⟨w.heap.size + 1 + 1 + 1, 0, none⟩)]) rfl h7 (enters_of Try.func131 (by kernel_rfl) rfl)
    (impl_coordsOf.stops F (n - 1) h7 hro (by omega) (w.heap.size + 1 + 1 + 1) w.heap.size c0 A0 l0 hlen W4 e3 (by omega) (fun j hj => by
      obtain ⟨ad, q1, q2, q3⟩ := hc j hj
      exact ⟨ad, q1, (eB.cell (p := ad.add j) (by unfold Addr.add; split <;> exact q3)).trans q2, q3⟩)) impl_coordsOf.Kp_t (impl_coordsOf.Kp_b (by omega)) (Below.refl _ _) (fun _ => rfl)
    (fun pre W => Boxed W w.heap.size 2 (.int .i64 (impl_coordsOf.run l0 a1 (pre.map (·.val))).1) ∧ impl_coordsOf.Row (w.heap.size + 1) (impl_coordsOf.run l0 a1 (pre.map (·.val))).2 W ∧ Boxed W (w.heap.size + 1 + 1) 27 (.slice (some ⟨w.heap.size + 1, 0, none⟩) l0.length l0.length) ∧ Below w.heap.size w W)
    (fun _ _ _ => False)
    (fun s A B row hs hg hr => ⟨hs.1.kept hg (impl_coordsOf.cells_ne hs.1 hr), hs.2.1.kept hg (impl_coordsOf.cells_ne hs.2.1 hr), hs.2.2.1.kept hg (impl_coordsOf.cells_ne hs.2.2.1 hr), hs.2.2.2.grown hg hs.2.2.2.size (fun k e => by have := (hr k e).1; omega)⟩)
    (fun _ _ _ _ _ hs _ _ => hs)
    ⟨e0, e1, e2, eB⟩
    (fun x => { tmps := #[.slice A0 l0.length c0, .int .i64 a1, undef, .pointer (some ⟨w.heap.size, 0, none⟩), .slice none 0 0, .pointer (some ⟨w.heap.size + 1 + 1, 0, none⟩), .int .i64 ((l0.length : Int) - 1 - (x.val : Int)), .int .i64 (l0[l0.length - 1 - x.val]?.getD 0), .slice A0 l0.length c0, .int .i64 l0.length, .slice (some ⟨w.heap.size + 1, 0, none⟩) l0.length l0.length, .slice A0 l0.length c0, .func (.func 131) #[] #[.pointer (some ⟨w.heap.size + 1 + 1 + 1, 0, none⟩)], .int .i64 ((l0.length : Int) - 1 - (x.val : Int)), .int .i64 (l0[l0.length - 1 - x.val]?.getD 0), undef, undef, undef, undef, undef, undef, undef, undef, undef, undef], defers := [] }) ?assign ?body ?done ?stop
  case assign =>
    intro l x W K hK
    gi_wp2
    exact hK
  case body =>
    rintro l pre x W ⟨hb0, hrow, hb2, hB⟩ _
    have hx := x.isLt
    have hlen2 := impl_coordsOf.run_length l0 a1 (pre.map (·.val))
    have hst : impl_coordsOf.run l0 a1 ((pre ++ [x]).map (·.val)) = impl_coordsOf.step l0 (impl_coordsOf.run l0 a1 (pre.map (·.val))) x.val := by rw [List.map_append]; exact impl_coordsOf.run_snoc _ _ _ _
    obtain ⟨st, hst0⟩ : ∃ st, impl_coordsOf.run l0 a1 (pre.map (·.val)) = st := ⟨_, rfl⟩
    rw [hst0] at hb0 hrow hlen2 hst
    have hd : l0[l0.length - 1 - x.val]?.getD 0 ≠ 0 := by
      rw [List.getElem?_eq_getElem (by omega)]
      exact hnz _ (List.getElem_mem _)
    have hge : (0 : Int) ≤ (l0.length : Int) - 1 - (x.val : Int) := by omega
    have hlt : (l0.length : Int) - 1 - (x.val : Int) < l0.length := by omega
    have htn : ((l0.length : Int) - 1 - (x.val : Int)).toNat = l0.length - 1 - x.val := by omega
    unfold impl_coordsOf.step at hst
    generalize l0[l0.length - 1 - x.val]?.getD 0 = dv at hd hst ⊢
    have c0_ := hb0.cell
    have f0_ := hb0.frozen
    have c2_ := hb2.cell
    have cg_ : W.cell? ⟨w.heap.size + 1, l0.length - 1 - x.val, none⟩ = some (.int .i64 (st.2.getD (l0.length - 1 - x.val) 0)) := by
      have h := hrow
      unfold impl_coordsOf.Row at h
      simp [World.cell?, h, List.getElem?_eq_getElem (show l0.length - 1 - x.val < st.2.length by omega)]
    have fg_ : W.frozen? ⟨w.heap.size + 1, l0.length - 1 - x.val, none⟩ = false := by
      have h := hrow
      unfold impl_coordsOf.Row at h
      simp [World.frozen?, h]
    have HF : Aside0 (ownPostG W4.heap.size (impl_coordsOf.Kp w.heap.size (w.heap.size + 1 + 1 + 1)) (fun pre W => Boxed W w.heap.size 2 (.int .i64 (impl_coordsOf.run l0 a1 (pre.map (·.val))).1) ∧ impl_coordsOf.Row (w.heap.size + 1) (impl_coordsOf.run l0 a1 (pre.map (·.val))).2 W ∧ Boxed W (w.heap.size + 1 + 1) 27 (.slice (some ⟨w.heap.size + 1, 0, none⟩) l0.length l0.length) ∧ Below w.heap.size w W)
        (fun _ _ _ => False) (pre ++ [x]) W .normal { tmps := #[], defers := [] } ((W.setCell ⟨w.heap.size + 1, l0.length - 1 - x.val, none⟩ (.int .i64 (Int.tmod st.1 dv))).setCell ⟨w.heap.size, 0, none⟩ (.int .i64 (wrap64 (Int.tdiv st.1 dv)))).drew) := by
      constructor
      refine ⟨(((KeepsOthers.setCell W _ _).trans (KeepsOthers.setCell _ _ _)).trans (impl_coordsOf.ko_drew _)).from _, ⟨(((Below.refl w.heap.size W).setCell (p := ⟨w.heap.size + 1, l0.length - 1 - x.val, none⟩) (Nat.le_succ _) _).setCell (p := ⟨w.heap.size, 0, none⟩) (Nat.le_refl _) _).drew, fun cs t fr h => ?_⟩, ?_, ?_, ?_, ((hB.setCell (p := ⟨w.heap.size + 1, l0.length - 1 - x.val, none⟩) (Nat.le_succ _) _).setCell (p := ⟨w.heap.size, 0, none⟩) (Nat.le_refl _) _).drew⟩
      · exact (Below.heap_setCell _ ⟨w.heap.size, 0, none⟩ _ _ (by show w.heap.size + 1 + 1 + 1 ≠ w.heap.size; omega)).trans ((Below.heap_setCell W ⟨w.heap.size + 1, l0.length - 1 - x.val, none⟩ _ _ (by show w.heap.size + 1 + 1 + 1 ≠ w.heap.size + 1; omega)).trans h)
      · rw [hst]
        have h : Boxed (W.setCell ⟨w.heap.size + 1, l0.length - 1 - x.val, none⟩ (.int .i64 (Int.tmod st.1 dv))) w.heap.size 2 (.int .i64 st.1) := (Below.heap_setCell W ⟨w.heap.size + 1, l0.length - 1 - x.val, none⟩ _ _ (by show w.heap.size ≠ w.heap.size + 1; omega)).trans hb0
        exact h.set _
      · rw [hst]
        exact (Below.heap_setCell _ ⟨w.heap.size, 0, none⟩ _ _ (by show w.heap.size + 1 ≠ w.heap.size; omega)).trans (hrow.set _ _)
      · exact (Below.heap_setCell _ ⟨w.heap.size, 0, none⟩ _ _ (by show w.heap.size + 1 + 1 ≠ w.heap.size; omega)).trans ((Below.heap_setCell W ⟨w.heap.size + 1, l0.length - 1 - x.val, none⟩ _ _ (by show w.heap.size + 1 + 1 ≠ w.heap.size + 1; omega)).trans hb2)
    clear hb0 hrow hb2 hB hst
    gi_wp2
    gi_region
    gi_wp2
    all_goals exact HF.out
  case done =>
    rintro D ys W hD rfl ⟨hb0, hrow, hb2, hB⟩ hK
    have hc2 := hb2.cell
    have hall : (impl_coordsOf.upto l0 l0.length).map (·.val) = List.range l0.length := by
      unfold impl_coordsOf.upto
      rw [List.take_of_length_le (by simp)]
      apply List.ext_getElem <;> simp
    rw [hall] at hrow
    have hlen2 := impl_coordsOf.run_length l0 a1 (List.range l0.length)
    gi_wp2
    refine ⟨by simp, .inl ⟨_, _, rfl, run_takeDeferred hK, ?_⟩⟩
    have hrow' := hrow.kept (grownBy_putObj' W D (.deferred none)) (impl_coordsOf.cells_ne (B := 0) hrow (fun r e => by cases e; exact ⟨Nat.zero_le _, _, hK, rfl⟩))
    refine ⟨_, results_tmp rfl _ _ _, _, rfl, Kd.R_of_own (enc := Value.int .i64) (h1 := fun _ => rfl) ?_ (fun _ _ => trivial), hB.trans (belowK_b (w := w) (Nat.le_refl _) W D _ _ (by omega) hK rfl rfl)⟩
    refine ⟨by simp [encs], .inr ⟨w.heap.size + 1, l0.length, _, by rw [hlen2]; rfl, Nat.le_succ _, hrow', by omega, by unfold maxLen; omega, by simp; omega, ?_⟩⟩
    rw [Nat.mul_one, List.take_of_length_le (by simp)]
    simp [encs]
  case stop =>
    rintro D c pre W _ _ h _
    exact h.elim
theorem impl_coordsOf.calls (A0 : Option Addr) (c0 : Nat) (l0 : List Int) (a1 : Int) (r : List Int) (w : World) (hr0 : Kd.C (Kd.int .i64) w A0 l0.length l0) (hc0 : l0.length ≤ c0) (h : impl_coordsOf.f l0 a1 = some r) :
    Calls Try.prog 62 #[.slice A0 l0.length c0, .int .i64 a1] w fun e w' => ∃ v0_ : Value, e = .returned (v0_) ∧ Kd.R (Kd.int .i64) 2 w' w.heap.size (fun _ => True) v0_ r ∧ Below w.heap.size w w' := by
  unfold impl_coordsOf.f at h
  split at h
  · rename_i hc
    obtain rfl := Option.some.inj h
    exact callsIn_wide.1 (impl_coordsOf.main Fence.wide 3 trivial trivial trivial rfl (by omega) A0 c0 l0 a1 w hr0 hc.1 hc.2)
  · cases h
end

/-! ### impl_CoordsOf: function 17 -/
def impl_CoordsOf.f (k : Nat) (l0 : List Int) (a1 : Int) : Option (List Int) := (impl_ValidDims.f k l0).bind fun t132 => (if t132 = true then ((impl_product.f k l0).bind fun t133 => ((impl_within.f a1 0 (wrap64 (t133 - 1))).bind fun t134 => (if t134 = true then ((impl_coordsOf.f l0 a1).bind fun t135 => (some t135)) else (some ([] : List Int))))) else (some ([] : List Int)))
theorem impl_CoordsOf.mono : ∀ a0 a1 k, LeO (impl_CoordsOf.f k a0 a1) (impl_CoordsOf.f (k + 1) a0 a1) := by
  intro a0 a1 k
  unfold impl_CoordsOf.f
  repeat' first
      | (with_reducible exact impl_ValidDims.mono _ _)
      | (with_reducible exact impl_product.mono _ _)
      | (with_reducible exact LeO.refl _)
      | (with_reducible exact LeO.none _)
      | (with_reducible refine LeO.ite ?_ ?_)
      | (with_reducible refine LeO.bind ?_ (fun _ => ?_))
      | exact impl_ValidDims.mono _ _
      | exact impl_product.mono _ _
      | exact LeO.none _
      | refine LeO.ite ?_ ?_
      | refine LeO.bind ?_ (fun _ => ?_)
set_option maxHeartbeats 8000000 in
set_option maxRecDepth 100000 in
theorem impl_CoordsOf.calls (k : Nat) (A0 : Option Addr) (c0 : Nat) (l0 : List Int) (a1 : Int) (r : List Int) (w : World) (hr0 : Kd.C (Kd.int .i64) w A0 l0.length l0) (hc0 : l0.length ≤ c0) (h : impl_CoordsOf.f k l0 a1 = some r) :
    Calls Try.prog 17 #[.slice A0 l0.length c0, .int .i64 a1] w fun e w' => ∃ v0_ : Value, e = .returned (v0_) ∧ Kd.R (Kd.int .i64) 2 w' w.heap.size (fun _ => True) v0_ r ∧ Below w.heap.size w w' := by
  have HR0 := Aside0.mk hr0
  have HC0 := Aside0.mk hc0
  clear hr0 hc0
  have HB := Aside0.mk (Below.refl w.heap.size w)
  have H : ((impl_ValidDims.f k l0).bind fun t132 => (if t132 = true then ((impl_product.f k l0).bind fun t133 => ((impl_within.f a1 0 (wrap64 (t133 - 1))).bind fun t134 => (if t134 = true then ((impl_coordsOf.f l0 a1).bind fun t135 => (some t135)) else (some ([] : List Int))))) else (some ([] : List Int)))) = some r := h
  clear h
  replace H := Option.bind_eq_some_iff.mp H
  obtain ⟨t132, A30, H⟩ := H
  replace H : (if t132 = true then ((impl_product.f k l0).bind fun t133 => ((impl_within.f a1 0 (wrap64 (t133 - 1))).bind fun t134 => (if t134 = true then ((impl_coordsOf.f l0 a1).bind fun t135 => (some t135)) else (some ([] : List Int))))) else (some ([] : List Int))) = some r := H
  have A3 := Aside0.mk A30
  clear A30
  by_cases c4 : t132 = true
  · subst c4
    have H1 : ((impl_product.f k l0).bind fun t133 => ((impl_within.f a1 0 (wrap64 (t133 - 1))).bind fun t134 => (if t134 = true then ((impl_coordsOf.f l0 a1).bind fun t135 => (some t135)) else (some ([] : List Int))))) = some r := by rw [if_pos rfl] at H; exact H
    clear H
    have H := H1
    clear H1
    replace H := Option.bind_eq_some_iff.mp H
    obtain ⟨t133, A50, H⟩ := H
    replace H : ((impl_within.f a1 0 (wrap64 (t133 - 1))).bind fun t134 => (if t134 = true then ((impl_coordsOf.f l0 a1).bind fun t135 => (some t135)) else (some ([] : List Int)))) = some r := H
    have A5 := Aside0.mk A50
    clear A50
    replace H := Option.bind_eq_some_iff.mp H
    obtain ⟨t134, A60, H⟩ := H
    replace H : (if t134 = true then ((impl_coordsOf.f l0 a1).bind fun t135 => (some t135)) else (some ([] : List Int))) = some r := H
    have A6 := Aside0.mk A60
    clear A60
    by_cases c7 : t134 = true
    · subst c7
      have H1 : ((impl_coordsOf.f l0 a1).bind fun t135 => (some t135)) = some r := by rw [if_pos rfl] at H; exact H
      clear H
      have H := H1
      clear H1
      replace H := Option.bind_eq_some_iff.mp H
      obtain ⟨t135, A80, H⟩ := H
      replace H : (some t135) = some r := H
      have A8 := Aside0.mk A80
      clear A80
      obtain rfl := Option.some.inj H
      go_enter Try.func17, Try.ntmps17
      go_wp2_with (first | ((with_reducible refine gate_callee (f := 59) rfl ?_); refine goesL_ (some 6) rfl rfl Try.func59 (by kernel_rfl) rfl #[.slice A0 l0.length c0] rfl (by (try simp only [List.map_toArray, List.map_cons, List.map_nil]); first | done | rfl | (simp only [List.length_drop, List.length_take]; rfl)) ?_; (with_reducible refine (impl_ValidDims.calls k _ _ l0 true _ ?side1 ?side2 A3.out).mono ?_); (case side1 => repeat (first | exact HR0.out | (with_reducible refine Kd.C_alloc ?_ _) | (with_reducible refine Kd.C_drewN ?_ _) | (with_reducible refine Kd.C_drew ?_))); (case side2 => exact HC0.out); rintro e w9 ⟨rfl, hb⟩; refine ⟨_, rfl, ?_⟩; have n0_ := Aside0.mk (below_step (by repeat (first | (with_reducible first | exact HB.out | apply below_alloc | apply pw_below_drewN | apply below_drew1) | exact HB.out)) hb); clear HB; have HB := n0_; clear n0_; (try clear hb); (try clear hb2); (try clear hk); (try clear hi)) | (go_at_call 61; (with_reducible refine (impl_product.calls k _ _ l0 t133 _ ?side1 ?side2 A5.out).mono ?_); (case side1 => repeat (first | exact (Kd.C_below HR0.out HB.out) | (with_reducible refine Kd.C_alloc ?_ _) | (with_reducible refine Kd.C_drewN ?_ _) | (with_reducible refine Kd.C_drew ?_))); (case side2 => exact HC0.out); rintro e w' ⟨rfl, ⟨nd, rfl⟩⟩) | (go_at_call 60; (with_reducible refine (impl_within.calls a1 0 (wrap64 (t133 - 1)) true _ A6.out).mono ?_); rintro e w' ⟨rfl, ⟨nd, rfl⟩⟩) | ((with_reducible refine gate_callee (f := 62) rfl ?_); refine goesL_ (some 18) rfl rfl Try.func62 (by kernel_rfl) rfl #[.slice A0 l0.length c0, .int .i64 a1] rfl (by (try simp only [List.map_toArray, List.map_cons, List.map_nil]); first | done | rfl | (simp only [List.length_drop, List.length_take]; rfl)) ?_; (with_reducible refine (impl_coordsOf.calls _ _ l0 a1 t135 _ ?side1 ?side2 A8.out).mono ?_); (case side1 => repeat (first | exact (Kd.C_below HR0.out (by repeat (first | (with_reducible first | exact HB.out | apply below_alloc | apply pw_below_drewN | apply below_drew1) | exact HB.out))) | (with_reducible refine Kd.C_alloc ?_ _) | (with_reducible refine Kd.C_drewN ?_ _) | (with_reducible refine Kd.C_drew ?_))); (case side2 => exact HC0.out); rintro e w10 ⟨v136, rfl, ho0, hb⟩; refine ⟨_, rfl, ?_⟩; have n0_ := Aside0.mk (Kd.R_lower ho0 (below_size (by repeat (first | (with_reducible first | exact HB.out | apply below_alloc | apply pw_below_drewN | apply below_drew1) | exact HB.out)))); have n1_ := Aside0.mk (below_step (by repeat (first | (with_reducible first | exact HB.out | apply below_alloc | apply pw_below_drewN | apply below_drew1) | exact HB.out)) hb); clear HB; have HO137 := n0_; have HB := n1_; clear n0_ n1_; (try clear hb); (try clear hb2); (try clear hk); (try clear hi); (try clear ho0)))
      go_ret
      exact ⟨_, by first | rfl | (simp [errW_none, errW_some] <;> rfl) | (simp [*, errW_none, errW_some] <;> rfl), by (with_reducible repeat (first | apply Kd.R_alloc | apply Kd.R_drewN | apply Kd.R_drew)); exact HO137.out, by repeat (first | (with_reducible first | exact HB.out | apply below_alloc | apply pw_below_drewN | apply below_drew1) | exact HB.out)⟩
    · replace c7 := Bool.eq_false_iff.mpr c7
      subst c7
      have H1 : (some ([] : List Int)) = some r := by rw [if_neg (show ¬ (false = true) by decide)] at H; exact H
      clear H
      have H := H1
      clear H1
      obtain rfl := Option.some.inj H
      go_enter Try.func17, Try.ntmps17
      go_wp2_with (first | ((with_reducible refine gate_callee (f := 59) rfl ?_); refine goesL_ (some 6) rfl rfl Try.func59 (by kernel_rfl) rfl #[.slice A0 l0.length c0] rfl (by (try simp only [List.map_toArray, List.map_cons, List.map_nil]); first | done | rfl | (simp only [List.length_drop, List.length_take]; rfl)) ?_; (with_reducible refine (impl_ValidDims.calls k _ _ l0 true _ ?side1 ?side2 A3.out).mono ?_); (case side1 => repeat (first | exact HR0.out | (with_reducible refine Kd.C_alloc ?_ _) | (with_reducible refine Kd.C_drewN ?_ _) | (with_reducible refine Kd.C_drew ?_))); (case side2 => exact HC0.out); rintro e w11 ⟨rfl, hb⟩; refine ⟨_, rfl, ?_⟩; have n0_ := Aside0.mk (below_step (by repeat (first | (with_reducible first | exact HB.out | apply below_alloc | apply pw_below_drewN | apply below_drew1) | exact HB.out)) hb); clear HB; have HB := n0_; clear n0_; (try clear hb); (try clear hb2); (try clear hk); (try clear hi)) | (go_at_call 61; (with_reducible refine (impl_product.calls k _ _ l0 t133 _ ?side1 ?side2 A5.out).mono ?_); (case side1 => repeat (first | exact (Kd.C_below HR0.out HB.out) | (with_reducible refine Kd.C_alloc ?_ _) | (with_reducible refine Kd.C_drewN ?_ _) | (with_reducible refine Kd.C_drew ?_))); (case side2 => exact HC0.out); rintro e w' ⟨rfl, ⟨nd, rfl⟩⟩) | (go_at_call 60; (with_reducible refine (impl_within.calls a1 0 (wrap64 (t133 - 1)) false _ A6.out).mono ?_); rintro e w' ⟨rfl, ⟨nd, rfl⟩⟩))
      go_ret
      exact ⟨_, by first | rfl | (simp [errW_none, errW_some] <;> rfl) | (simp [*, errW_none, errW_some] <;> rfl), by first | exact Kd.R_nil _ _ _ _ _ | exact Kd.N_nil _ _ _ _ _ | exact Kd.V_nil _ _ _ _ _ | exact Kd.Q_nil _ _ _ _ _ | exact Kd.S_nil _ _ _ _ _, by repeat (first | (with_reducible first | exact HB.out | apply below_alloc | apply pw_below_drewN | apply below_drew1) | exact HB.out)⟩
  · replace c4 := Bool.eq_false_iff.mpr c4
    subst c4
    have H1 : (some ([] : List Int)) = some r := by rw [if_neg (show ¬ (false = true) by decide)] at H; exact H
    clear H
    have H := H1
    clear H1
    obtain rfl := Option.some.inj H
    go_enter Try.func17, Try.ntmps17
    go_wp2_with (first | ((with_reducible refine gate_callee (f := 59) rfl ?_); refine goesL_ (some 6) rfl rfl Try.func59 (by kernel_rfl) rfl #[.slice A0 l0.length c0] rfl (by (try simp only [List.map_toArray, List.map_cons, List.map_nil]); first | done | rfl | (simp only [List.length_drop, List.length_take]; rfl)) ?_; (with_reducible refine (impl_ValidDims.calls k _ _ l0 false _ ?side1 ?side2 A3.out).mono ?_); (case side1 => repeat (first | exact HR0.out | (with_reducible refine Kd.C_alloc ?_ _) | (with_reducible refine Kd.C_drewN ?_ _) | (with_reducible refine Kd.C_drew ?_))); (case side2 => exact HC0.out); rintro e w12 ⟨rfl, hb⟩; refine ⟨_, rfl, ?_⟩; have n0_ := Aside0.mk (below_step (by repeat (first | (with_reducible first | exact HB.out | apply below_alloc | apply pw_below_drewN | apply below_drew1) | exact HB.out)) hb); clear HB; have HB := n0_; clear n0_; (try clear hb); (try clear hb2); (try clear hk); (try clear hi)))
    go_ret
    exact ⟨_, by first | rfl | (simp [errW_none, errW_some] <;> rfl) | (simp [*, errW_none, errW_some] <;> rfl), by first | exact Kd.R_nil _ _ _ _ _ | exact Kd.N_nil _ _ _ _ _ | exact Kd.V_nil _ _ _ _ _ | exact Kd.Q_nil _ _ _ _ _ | exact Kd.S_nil _ _ _ _ _, by repeat (first | (with_reducible first | exact HB.out | apply below_alloc | apply pw_below_drewN | apply below_drew1) | exact HB.out)⟩

/-! ### laws_eqInt64S: function 18 -/
def laws_eqInt64S.l0 : Nat → List Int → List Int → Int → Option (Bool)
  | 0, _, _, _ => none
  | k + 1, x0, x1, x5 => if x5 < (x0.length : Int) then (if 0 ≤ x5 then (if x5 < (x1.length : Int) then (if (rd x0 x5) = (rd x1 x5) then (laws_eqInt64S.l0 k x0 x1 (wrap64 (x5 + 1))) else (some false)) else (none)) else (none)) else (some true)
def laws_eqInt64S.f (k : Nat) (l0 : List Int) (l1 : List Int) : Option (Bool) := if (l0.length : Int) = (l1.length : Int) then (laws_eqInt64S.l0 k l0 l1 0) else (some false)
theorem laws_eqInt64S.mono_l : ∀ k, (∀ y0 y1 y2, LeO (laws_eqInt64S.l0 k y0 y1 y2) (laws_eqInt64S.l0 (k + 1) y0 y1 y2))
  | 0 => fun _ _ _ r h => by simp [laws_eqInt64S.l0] at h
  | k + 1 => by
    have ih0 := laws_eqInt64S.mono_l k
    · intro y0 y1 y2
      unfold laws_eqInt64S.l0
      repeat' first
      | (with_reducible exact ih0 _ _ _)
      | (with_reducible exact LeO.refl _)
      | (with_reducible exact LeO.none _)
      | (with_reducible refine LeO.ite ?_ ?_)
      | (with_reducible refine LeO.bind ?_ (fun _ => ?_))
      | exact ih0 _ _ _
      | exact LeO.none _
      | refine LeO.ite ?_ ?_
      | refine LeO.bind ?_ (fun _ => ?_)
theorem laws_eqInt64S.mono : ∀ a0 a1 k, LeO (laws_eqInt64S.f k a0 a1) (laws_eqInt64S.f (k + 1) a0 a1) := by
  intro a0 a1 k
  have ih0 := laws_eqInt64S.mono_l k
  unfold laws_eqInt64S.f
  repeat' first
      | (with_reducible exact ih0 _ _ _)
      | (with_reducible exact LeO.refl _)
      | (with_reducible exact LeO.none _)
      | (with_reducible refine LeO.ite ?_ ?_)
      | (with_reducible refine LeO.bind ?_ (fun _ => ?_))
      | exact ih0 _ _ _
      | exact LeO.none _
      | refine LeO.ite ?_ ?_
      | refine LeO.bind ?_ (fun _ => ?_)
set_option maxHeartbeats 8000000 in
set_option maxRecDepth 100000 in
theorem laws_eqInt64S.calls (k : Nat) (A0 : Option Addr) (c0 : Nat) (l0 : List Int) (A1 : Option Addr) (c1 : Nat) (l1 : List Int) (r : Bool) (w : World) (hr0 : Kd.C (Kd.int .i64) w A0 l0.length l0) (hc0 : l0.length ≤ c0) (hr1 : Kd.C (Kd.int .i64) w A1 l1.length l1) (hc1 : l1.length ≤ c1) (h : laws_eqInt64S.f k l0 l1 = some r) :
    Calls Try.prog 18 #[.slice A0 l0.length c0, .slice A1 l1.length c1] w fun e w' => e = .returned (.bool r) ∧ Drawn0 w w' := by
  have HR0 := Aside0.mk hr0
  have HC0 := Aside0.mk hc0
  clear hr0 hc0
  have HR1 := Aside0.mk hr1
  have HC1 := Aside0.mk hc1
  clear hr1 hc1
  have H : (if (l0.length : Int) = (l1.length : Int) then (laws_eqInt64S.l0 k l0 l1 0) else (some false)) = some r := h
  clear h
  by_cases c3 : (l0.length : Int) = (l1.length : Int)
  · rw [if_pos c3] at H
    have c3b0 : ((l0.length : Int) == (l1.length : Int)) = true := beq_iff_eq.mpr c3
    have c3b1 : ((l0.length : Int) != (l1.length : Int)) = false := bne_eq_false_iff_eq.mpr c3
    have c3b2 : (l0.length == l1.length) = true := by first | simpa using c3 | (simp at c3 ⊢; omega)
    clear c3
    have H' := Aside0.mk H
    clear H
    go_enter Try.func18, Try.ntmps18
    go_wp2
    repeat (go_quiet (fail); try go_wp2)
    go_loopg [5] k (fun kq v5 w' => ∃ (x5_1 : Int), v5 = .int .i64 x5_1 ∧ Aside0 (laws_eqInt64S.l0 kq l0 l1 x5_1 = some r) ∧ Aside0 (kq ≤ k) ∧ Drawn0 w w')
    case atStart => exact ⟨(0), (by first | rfl | (simp; done) | (simp [*]; done)), H', ⟨Nat.le_refl _⟩, by repeat (first | exact Drawn0.refl _ | apply Drawn0.step)⟩
    case round =>
      clear H'
      try clear c1
      try clear p2
      try clear c3
      try clear c3b0
      try clear c3b1
      try clear c3b2
      obtain ⟨x5_1, rfl, HA, HK1, ⟨m1, rfl⟩⟩ := hrel
      cases gk with
      | zero => exact absurd HA.out (by simp [laws_eqInt64S.l0])
      | succ k1 =>
        have H := HA.out
        clear HA
        simp only [laws_eqInt64S.l0] at H
        by_cases c4 : x5_1 < (l0.length : Int)
        · rw [if_pos c4] at H
          have c4b0 : decide (x5_1 < (l0.length : Int)) = true := decide_eq_true c4
          clear c4
          by_cases c5 : 0 ≤ x5_1
          · rw [if_pos c5] at H
            have c5b0 : decide (0 ≤ x5_1) = true := decide_eq_true c5
            clear c5
            by_cases c6 : x5_1 < (l1.length : Int)
            · rw [if_pos c6] at H
              have c6b0 : decide (x5_1 < (l1.length : Int)) = true := decide_eq_true c6
              clear c6
              by_cases c7 : (rd l0 x5_1) = (rd l1 x5_1)
              · rw [if_pos c7] at H
                have c7b0 : ((rd l0 x5_1) == (rd l1 x5_1)) = true := beq_iff_eq.mpr c7
                have c7b1 : ((rd l0 x5_1) != (rd l1 x5_1)) = false := bne_eq_false_iff_eq.mpr c7
                clear c7
                have H' := Aside0.mk H
                clear H
                have p138 : 0 ≤ (x5_1 : Int) := of_decide_eq_true (by first | (with_reducible assumption) | assumption)
                have q138 : x5_1 < (l0.length : Int) := of_decide_eq_true (by first | (with_reducible assumption) | assumption)
                obtain ⟨ad138, e138, hx138_0⟩ := Kd.at_int HR0.out x5_1 p138 q138
                cases e138
                replace p138 := eq_true p138
                replace q138 := eq_true q138
                have p139 : 0 ≤ (x5_1 : Int) := of_decide_eq_true (by first | (with_reducible assumption) | assumption)
                have q139 : x5_1 < (l1.length : Int) := of_decide_eq_true (by first | (with_reducible assumption) | assumption)
                obtain ⟨ad139, e139, hx139_0⟩ := Kd.at_int HR1.out x5_1 p139 q139
                cases e139
                replace p139 := eq_true p139
                replace q139 := eq_true q139
                go_wp2
                repeat (go_quiet (fail); try go_wp2)
                go_roundg k1
                case measure => have := HK1.out; omega
                case rel => exact ⟨(wrap64 (x5_1 + 1)), (by first | rfl | (simp; done) | (simp [*]; done)), H', ⟨by have := HK1.out; omega⟩, by repeat (first | exact Drawn0.refl _ | apply Drawn0.step)⟩
              · rw [if_neg c7] at H
                have c7b0 : ((rd l0 x5_1) == (rd l1 x5_1)) = false := beq_eq_false_iff_ne.mpr c7
                have c7b1 : ((rd l0 x5_1) != (rd l1 x5_1)) = true := bne_iff_ne.mpr c7
                obtain rfl := Option.some.inj H
                have p138 : 0 ≤ (x5_1 : Int) := of_decide_eq_true (by first | (with_reducible assumption) | assumption)
                have q138 : x5_1 < (l0.length : Int) := of_decide_eq_true (by first | (with_reducible assumption) | assumption)
                obtain ⟨ad138, e138, hx138_0⟩ := Kd.at_int HR0.out x5_1 p138 q138
                cases e138
                replace p138 := eq_true p138
                replace q138 := eq_true q138
                have p139 : 0 ≤ (x5_1 : Int) := of_decide_eq_true (by first | (with_reducible assumption) | assumption)
                have q139 : x5_1 < (l1.length : Int) := of_decide_eq_true (by first | (with_reducible assumption) | assumption)
                obtain ⟨ad139, e139, hx139_0⟩ := Kd.at_int HR1.out x5_1 p139 q139
                cases e139
                replace p139 := eq_true p139
                replace q139 := eq_true q139
                go_wp2
                repeat (go_quiet (fail); try go_wp2)
                go_ret
                exact ⟨by first | rfl | (simp; done) | (simp [*]; done), by repeat (first | exact Drawn0.refl _ | apply Drawn0.step)⟩
            · rw [if_neg c6] at H
              exact absurd H (by simp)
          · rw [if_neg c5] at H
            exact absurd H (by simp)
        · rw [if_neg c4] at H
          have c4b0 : decide (x5_1 < (l0.length : Int)) = false := decide_eq_false c4
          clear c4
          obtain rfl := Option.some.inj H
          go_wp2
          repeat (go_quiet (fail); try go_wp2)
          go_ret
          exact ⟨by first | rfl | (simp; done) | (simp [*]; done), by repeat (first | exact Drawn0.refl _ | apply Drawn0.step)⟩
  · rw [if_neg c3] at H
    have c3b0 : ((l0.length : Int) == (l1.length : Int)) = false := beq_eq_false_iff_ne.mpr c3
    have c3b1 : ((l0.length : Int) != (l1.length : Int)) = true := bne_iff_ne.mpr c3
    have c3b2 : (l0.length == l1.length) = false := by first | simpa using c3 | (simp at c3 ⊢; omega)
    obtain rfl := Option.some.inj H
    go_enter Try.func18, Try.ntmps18
    go_wp2
    repeat (go_quiet (fail); try go_wp2)
    go_ret
    exact ⟨by first | rfl | (simp; done) | (simp [*]; done), by repeat (first | exact Drawn0.refl _ | apply Drawn0.step)⟩

/-! ### laws_markInt64S: function 19 -/
def laws_markInt64S.l0 : Nat → List Int → Int → Int → Option (Int × List Int)
  | 0, _, _, _ => none
  | k + 1, x0, x1, x5 => if x5 < (x0.length : Int) then (if 0 ≤ x5 then (laws_markInt64S.l0 k (x0.set (x5 : Int).toNat x1) (wrap64 (x1 + 1)) (wrap64 (x5 + 1))) else (none)) else (some (x1, x0))
def laws_markInt64S.f (k : Nat) (l0 : List Int) (a1 : Int) : Option (Int × List Int) := laws_markInt64S.l0 k l0 a1 0
theorem laws_markInt64S.mono_l : ∀ k, (∀ y0 y1 y2, LeO (laws_markInt64S.l0 k y0 y1 y2) (laws_markInt64S.l0 (k + 1) y0 y1 y2))
  | 0 => fun _ _ _ r h => by simp [laws_markInt64S.l0] at h
  | k + 1 => by
    have ih0 := laws_markInt64S.mono_l k
    · intro y0 y1 y2
      unfold laws_markInt64S.l0
      repeat' first
      | (with_reducible exact ih0 _ _ _)
      | (with_reducible exact LeO.refl _)
      | (with_reducible exact LeO.none _)
      | (with_reducible refine LeO.ite ?_ ?_)
      | (with_reducible refine LeO.bind ?_ (fun _ => ?_))
      | exact ih0 _ _ _
      | exact LeO.none _
      | refine LeO.ite ?_ ?_
      | refine LeO.bind ?_ (fun _ => ?_)
theorem laws_markInt64S.mono : ∀ a0 a1 k, LeO (laws_markInt64S.f k a0 a1) (laws_markInt64S.f (k + 1) a0 a1) := by
  intro a0 a1 k
  have ih0 := laws_markInt64S.mono_l k
  unfold laws_markInt64S.f
  repeat' first
      | (with_reducible exact ih0 _ _ _)
      | (with_reducible exact LeO.refl _)
      | (with_reducible exact LeO.none _)
      | (with_reducible refine LeO.ite ?_ ?_)
      | (with_reducible refine LeO.bind ?_ (fun _ => ?_))
      | exact ih0 _ _ _
      | exact LeO.none _
      | refine LeO.ite ?_ ?_
      | refine LeO.bind ?_ (fun _ => ?_)
set_option maxHeartbeats 8000000 in
set_option maxRecDepth 100000 in
theorem laws_markInt64S.calls (k : Nat) (P0_ : Nat → Prop) (u9000_ : Value) (l0 : List Int) (a1 : Int) (r1 : Int) (r2 : List Int) (w0 w : World) (hB : Below w0.heap.size w0 w) (ho0 : Kd.R (Kd.int .i64) 2 w w0.heap.size P0_ u9000_ l0) (h : laws_markInt64S.f k l0 a1 = some (r1, r2)) :
    Calls Try.prog 19 #[u9000_, .int .i64 a1] w fun e w' => e = .returned (.int .i64 r1) ∧ Kd.R (Kd.int .i64) 2 w' w0.heap.size (fun k_ => (P0_ k_ ∨ w.heap.size ≤ k_)) u9000_ r2 ∧ Below w0.heap.size w0 w' ∧ Kept w w' (fun k_ => P0_ k_) := by
  have HO0 := Aside0.mk (show Kd.R (Kd.int .i64) 2 w w0.heap.size (fun k_ => (P0_ k_ ∨ w.heap.size ≤ k_)) u9000_ l0 from Kd.R_mono ho0 (fun k_ hk => (.inl hk)))
  have HK := Aside0.mk (Kept.refl w (fun k_ => P0_ k_))
  have HW0 := Aside0.mk hB.size
  have HB := Aside0.mk hB
  clear hB
  have H : (laws_markInt64S.l0 k l0 a1 0) = some (r1, r2) := h
  clear h
  have H' := Aside0.mk H
  clear H
  go_enter Try.func19, Try.ntmps19
  go_wp2
  go_loopg [1, 5] k (fun kq v1 v5 w' => ∃ (x0_1 : List Int) (x1_1 : Int) (x5_1 : Int), v1 = .int .i64 x1_1 ∧ v5 = .int .i64 x5_1 ∧ Aside0 (laws_markInt64S.l0 kq x0_1 x1_1 x5_1 = some (r1, r2)) ∧ Aside0 (kq ≤ k) ∧ Aside0 (Kd.R (Kd.int .i64) 2 w' w0.heap.size (fun k_ => (P0_ k_ ∨ w.heap.size ≤ k_)) u9000_ x0_1) ∧ Aside0 (Kept w w' (fun k_ => P0_ k_)) ∧ Aside0 (Below w0.heap.size w0 w'))
  case atStart => exact ⟨(l0), (a1), (0), (by first | rfl | (simp; done) | (simp [*]; done)), (by first | rfl | (simp; done) | (simp [*]; done)), H', ⟨Nat.le_refl _⟩, ⟨by (with_reducible repeat (first | apply Kd.R_alloc | apply Kd.R_drewN | apply Kd.R_drew)); exact HO0.out⟩, ⟨by repeat (first | (with_reducible first | exact HK.out | apply Kept.alloc | apply Kept.drewN | apply Kept.drew) | exact HK.out)⟩, ⟨by repeat (first | (with_reducible first | exact HB.out | apply below_alloc | apply pw_below_drewN | apply below_drew1) | exact HB.out)⟩⟩
  case round =>
    clear H'
    try clear c1
    try clear p2
    obtain ⟨x0_1, x1_1, x5_1, rfl, rfl, HA, HK1, HO_0, HK, HB⟩ := hrel
    cases gk with
    | zero => exact absurd HA.out (by simp [laws_markInt64S.l0])
    | succ k1 =>
      have H := HA.out
      clear HA
      simp only [laws_markInt64S.l0] at H
      by_cases c3 : x5_1 < (x0_1.length : Int)
      · rw [if_pos c3] at H
        have c3b0 : decide (x5_1 < (x0_1.length : Int)) = true := decide_eq_true c3
        clear c3
        by_cases c4 : 0 ≤ x5_1
        · rw [if_pos c4] at H
          have c4b0 : decide (0 ≤ x5_1) = true := decide_eq_true c4
          clear c4
          obtain ⟨y140, hy140⟩ : ∃ y_ : List Int, y_ = (x0_1.set (x5_1 : Int).toNat x1_1) := ⟨_, rfl⟩
          replace H : (laws_markInt64S.l0 k1 y140 (wrap64 (x1_1 + 1)) (wrap64 (x5_1 + 1))) = some (r1, r2) := by first | (rw [hy140]; with_reducible exact H) | (have H2_ := (Option.bind_some _ _).symm.trans H; rw [hy140]; with_reducible exact H2_) | (have H2_ := (Option.bind_some _ _).symm.trans H; with_reducible exact H2_) | with_reducible exact H | (rw [hy140]; exact H) | exact H
          have Ny140 := Aside0.mk hy140
          clear hy140
          have H' := Aside0.mk H
          clear H
          obtain ⟨Ao6, co6, eo6⟩ := Kd.R_slice HO_0.out
          subst eo6
          have p5 : 0 ≤ (x5_1 : Int) := of_decide_eq_true (by first | (with_reducible assumption) | assumption)
          have q5 : (x5_1 : Int) < ((x0_1.length : Int) : Int) := of_decide_eq_true (by first | (with_reducible assumption) | assumption)
          obtain ⟨go5, co5, eo5, gb5, gl5, cl5, HG5⟩ := Kd.R_form HO_0.out (by omega)
          (first | cases eo5 | (injection eo5 with ea_ en_ ec_; (first | subst ea_ | (injection ea_ with ea_; subst ea_)); subst ec_; clear en_))
          have GB5 := Aside0.mk gb5
          have GG5 := Aside0.mk HG5
          clear gb5 gl5 HG5
          have HMgo5 := Aside0.mk (show (P0_ go5 ∨ w.heap.size ≤ go5) from (HO_0.out.1 _ rfl))
          obtain ⟨hx5_0, hf5_0⟩ := Kd.R_celln 0 HO_0.out (x5_1 : Int) p5 q5
          replace p5 := eq_true p5
          replace q5 := eq_true q5
          have HP7 := Kd.R_putg HO_0.out (x5_1 : Int) x1_1
          go_wp2_with (first | ((with_reducible refine gate_store (t := 2) (p := 15) rfl ?_); refine store_event (t := 2) (p := 15) (v := ?vo_w8) (w1 := (wr.setCell ⟨go5, (x5_1 : Int).toNat, none⟩ (.int .i64 x1_1))) ?hg ?ho ?hn ?hr ?_; (case ho => rfl); (case hg => rfl); (case hn => rfl); (case hr => first | (go_simp; done) | (go_simp; rfl)); intro w8 hw; have hg : wr.grownBy w8 (some go5) := (by rw [hw]; exact HP7.2); have hp_ : Kd.R (Kd.int .i64) 2 w8 w0.heap.size (fun k_ => (P0_ k_ ∨ w.heap.size ≤ k_)) (.slice (some ⟨go5, 0, none⟩) x0_1.length co6) y140 := (by rw [hw, Ny140.out]; exact HP7.1); clear HP7; have n0_ := Aside0.mk (hp_); have n1_ := Aside0.mk ((by rw [hw]; exact below_set (HB.out) GB5.out : Below w0.heap.size w0 w8)); have n2_ := Aside0.mk (Kept.of_grown (S := (fun k_ => P0_ k_)) hg (by repeat (first | (with_reducible first | exact HK.out | apply Kept.alloc | apply Kept.drewN | apply Kept.drew) | exact HK.out)) (fun k_ e_ => (HO_0.out.1 k_ e_))); clear HO_0; clear HB; clear HK; have HO_0 := n0_; have HB := n1_; have HK := n2_; clear n0_ n1_ n2_; clear hg hw hp_))
          go_roundg k1
          case measure => have := HK1.out; omega
          case rel => exact ⟨(y140), (wrap64 (x1_1 + 1)), (wrap64 (x5_1 + 1)), (by first | rfl | (simp; done) | (simp [*]; done)), (by first | rfl | (simp; done) | (simp [*]; done)), H', ⟨by have := HK1.out; omega⟩, ⟨by (with_reducible repeat (first | apply Kd.R_alloc | apply Kd.R_drewN | apply Kd.R_drew)); exact HO_0.out⟩, ⟨by repeat (first | (with_reducible first | exact HK.out | apply Kept.alloc | apply Kept.drewN | apply Kept.drew) | exact HK.out)⟩, ⟨by repeat (first | (with_reducible first | exact HB.out | apply below_alloc | apply pw_below_drewN | apply below_drew1) | exact HB.out)⟩⟩
        · rw [if_neg c4] at H
          exact absurd H (by simp)
      · rw [if_neg c3] at H
        have c3b0 : decide (x5_1 < (x0_1.length : Int)) = false := decide_eq_false c3
        clear c3
        simp only [Option.some.injEq, Prod.mk.injEq] at H
        obtain ⟨rfl, rfl⟩ := H
        obtain ⟨Ao9, co9, eo9⟩ := Kd.R_slice HO_0.out
        subst eo9
        go_wp2
        go_ret
        exact ⟨by first | rfl | (simp [errW_none, errW_some] <;> rfl) | (simp [*, errW_none, errW_some] <;> rfl), by (with_reducible repeat (first | apply Kd.R_alloc | apply Kd.R_drewN | apply Kd.R_drew)); exact HO_0.out, by repeat (first | (with_reducible first | exact HB.out | apply below_alloc | apply pw_below_drewN | apply below_drew1) | exact HB.out), by repeat (first | (with_reducible first | exact HK.out | apply Kept.alloc | apply Kept.drewN | apply Kept.drew) | exact HK.out)⟩

/-! ### laws_heldInt64S: function 20 -/
def laws_heldInt64S.l0 : Nat → List Int → Int → Int → Option (Int)
  | 0, _, _, _ => none
  | k + 1, x0, x1, x5 => if x5 < (x0.length : Int) then (if 0 ≤ x5 then (if (rd x0 x5) = x1 then (laws_heldInt64S.l0 k x0 (wrap64 (x1 + 1)) (wrap64 (x5 + 1))) else (some (-1))) else (none)) else (some x1)
def laws_heldInt64S.f (k : Nat) (l0 : List Int) (a1 : Int) : Option (Int) := laws_heldInt64S.l0 k l0 a1 0
theorem laws_heldInt64S.mono_l : ∀ k, (∀ y0 y1 y2, LeO (laws_heldInt64S.l0 k y0 y1 y2) (laws_heldInt64S.l0 (k + 1) y0 y1 y2))
  | 0 => fun _ _ _ r h => by simp [laws_heldInt64S.l0] at h
  | k + 1 => by
    have ih0 := laws_heldInt64S.mono_l k
    · intro y0 y1 y2
      unfold laws_heldInt64S.l0
      repeat' first
      | (with_reducible exact ih0 _ _ _)
      | (with_reducible exact LeO.refl _)
      | (with_reducible exact LeO.none _)
      | (with_reducible refine LeO.ite ?_ ?_)
      | (with_reducible refine LeO.bind ?_ (fun _ => ?_))
      | exact ih0 _ _ _
      | exact LeO.none _
      | refine LeO.ite ?_ ?_
      | refine LeO.bind ?_ (fun _ => ?_)
theorem laws_heldInt64S.mono : ∀ a0 a1 k, LeO (laws_heldInt64S.f k a0 a1) (laws_heldInt64S.f (k + 1) a0 a1) := by
  intro a0 a1 k
  have ih0 := laws_heldInt64S.mono_l k
  unfold laws_heldInt64S.f
  repeat' first
      | (with_reducible exact ih0 _ _ _)
      | (with_reducible exact LeO.refl _)
      | (with_reducible exact LeO.none _)
      | (with_reducible refine LeO.ite ?_ ?_)
      | (with_reducible refine LeO.bind ?_ (fun _ => ?_))
      | exact ih0 _ _ _
      | exact LeO.none _
      | refine LeO.ite ?_ ?_
      | refine LeO.bind ?_ (fun _ => ?_)
set_option maxHeartbeats 8000000 in
set_option maxRecDepth 100000 in
theorem laws_heldInt64S.calls (k : Nat) (A0 : Option Addr) (c0 : Nat) (l0 : List Int) (a1 : Int) (r : Int) (w : World) (hr0 : Kd.C (Kd.int .i64) w A0 l0.length l0) (hc0 : l0.length ≤ c0) (h : laws_heldInt64S.f k l0 a1 = some r) :
    Calls Try.prog 20 #[.slice A0 l0.length c0, .int .i64 a1] w fun e w' => e = .returned (.int .i64 r) ∧ Drawn0 w w' := by
  have HR0 := Aside0.mk hr0
  have HC0 := Aside0.mk hc0
  clear hr0 hc0
  have H : (laws_heldInt64S.l0 k l0 a1 0) = some r := h
  clear h
  have H' := Aside0.mk H
  clear H
  go_enter Try.func20, Try.ntmps20
  go_wp2
  go_loopg [1, 5] k (fun kq v1 v5 w' => ∃ (x1_1 : Int) (x5_1 : Int), v1 = .int .i64 x1_1 ∧ v5 = .int .i64 x5_1 ∧ Aside0 (laws_heldInt64S.l0 kq l0 x1_1 x5_1 = some r) ∧ Aside0 (kq ≤ k) ∧ Drawn0 w w')
  case atStart => exact ⟨(a1), (0), (by first | rfl | (simp; done) | (simp [*]; done)), (by first | rfl | (simp; done) | (simp [*]; done)), H', ⟨Nat.le_refl _⟩, by repeat (first | exact Drawn0.refl _ | apply Drawn0.step)⟩
  case round =>
    clear H'
    try clear c2
    try clear p2
    obtain ⟨x1_1, x5_1, rfl, rfl, HA, HK1, ⟨m1, rfl⟩⟩ := hrel
    cases gk with
    | zero => exact absurd HA.out (by simp [laws_heldInt64S.l0])
    | succ k1 =>
      have H := HA.out
      clear HA
      simp only [laws_heldInt64S.l0] at H
      by_cases c3 : x5_1 < (l0.length : Int)
      · rw [if_pos c3] at H
        have c3b0 : decide (x5_1 < (l0.length : Int)) = true := decide_eq_true c3
        clear c3
        by_cases c4 : 0 ≤ x5_1
        · rw [if_pos c4] at H
          have c4b0 : decide (0 ≤ x5_1) = true := decide_eq_true c4
          clear c4
          by_cases c5 : (rd l0 x5_1) = x1_1
          · rw [if_pos c5] at H
            have c5b0 : ((rd l0 x5_1) == x1_1) = true := beq_iff_eq.mpr c5
            have c5b1 : ((rd l0 x5_1) != x1_1) = false := bne_eq_false_iff_eq.mpr c5
            clear c5
            have H' := Aside0.mk H
            clear H
            have p141 : 0 ≤ (x5_1 : Int) := of_decide_eq_true (by first | (with_reducible assumption) | assumption)
            have q141 : x5_1 < (l0.length : Int) := of_decide_eq_true (by first | (with_reducible assumption) | assumption)
            obtain ⟨ad141, e141, hx141_0⟩ := Kd.at_int HR0.out x5_1 p141 q141
            cases e141
            replace p141 := eq_true p141
            replace q141 := eq_true q141
            go_wp2
            go_roundg k1
            case measure => have := HK1.out; omega
            case rel => exact ⟨(wrap64 (x1_1 + 1)), (wrap64 (x5_1 + 1)), (by first | rfl | (simp; done) | (simp [*]; done)), (by first | rfl | (simp; done) | (simp [*]; done)), H', ⟨by have := HK1.out; omega⟩, by repeat (first | exact Drawn0.refl _ | apply Drawn0.step)⟩
          · rw [if_neg c5] at H
            have c5b0 : ((rd l0 x5_1) == x1_1) = false := beq_eq_false_iff_ne.mpr c5
            have c5b1 : ((rd l0 x5_1) != x1_1) = true := bne_iff_ne.mpr c5
            obtain rfl := Option.some.inj H
            have p141 : 0 ≤ (x5_1 : Int) := of_decide_eq_true (by first | (with_reducible assumption) | assumption)
            have q141 : x5_1 < (l0.length : Int) := of_decide_eq_true (by first | (with_reducible assumption) | assumption)
            obtain ⟨ad141, e141, hx141_0⟩ := Kd.at_int HR0.out x5_1 p141 q141
            cases e141
            replace p141 := eq_true p141
            replace q141 := eq_true q141
            go_wp2
            go_ret
            exact ⟨by first | rfl | (simp; done) | (simp [*]; done), by repeat (first | exact Drawn0.refl _ | apply Drawn0.step)⟩
        · rw [if_neg c4] at H
          exact absurd H (by simp)
      · rw [if_neg c3] at H
        have c3b0 : decide (x5_1 < (l0.length : Int)) = false := decide_eq_false c3
        clear c3
        obtain rfl := Option.some.inj H
        go_wp2
        go_ret
        exact ⟨by first | rfl | (simp; done) | (simp [*]; done), by repeat (first | exact Drawn0.refl _ | apply Drawn0.step)⟩

end Go.Proofs.Ytehldidejgpifaa.PFnExactCoordsOf
