/- Each function here comes to its plain form. It holds without a condition. -/
import Derived.Test.YtdiaebjbiddefaaPFnExactBoxesOfx0
import Derived.Test.YtdiaebjbiddefaaPFnExactBoxesOfx1
namespace Go.Proofs.Ytdiaebjbiddefaa.PFnExactBoxesOf
open Go.RowKit Go.Proofs.YtdiaebjbiddefaaW.PrintWords Go.Proofs.YtdiaebjbiddefaaW.PrintLast Go.Proofs.YtdiaebjbiddefaaW.PrintMore
attribute [local go_sem] max2_int min2_int max_two min_two max_three min_three max_four min_four   -- for this text's walks alone
set_option linter.unusedVariables false
set_option linter.unusedSimpArgs false
set_option maxHeartbeats 8000000
set_option maxRecDepth 100000

/-! ### spec_l06Valid: function 77 -/
mutual
def spec_l06Valid.j0 : Nat → List Int → Bool → Int → List Int → List Int → List Int → List Int → List (S110) → Option (Bool)
 | 0, _, _, _, _, _, _, _, _ => none
 | k + 1, x0, x14, x185000, x185001, x185002, x185003, x185004, x185005 => if x14 = true then (some false) else (if x185000 = 3 then (if (x185001.length : Int) = (x0.length : Int) then (spec_l06Valid.l0 k x0 0 x185000 x185001 x185002 x185003 x185004 x185005) else (some false)) else (if x185000 = 4 then (spec_l06Valid.l1 k x0 0 x185000 x185001 x185002 x185003 x185004 x185005) else (some true)))
def spec_l06Valid.l0 : Nat → List Int → Int → Int → List Int → List Int → List Int → List Int → List (S110) → Option (Bool)
 | 0, _, _, _, _, _, _, _, _ => none
 | k + 1, x0, x5, x185000, x185001, x185002, x185003, x185004, x185005 => if x5 < (x0.length : Int) then ((spec_l06End.f x185000 x185001 x185002 x185003 x185004 x185005 x5).bind fun t187 => (if 0 ≤ x5 then (if t187 > (rd x0 x5) then (some false) else (spec_l06Valid.l0 k x0 (wrap64 (x5 + 1)) x185000 x185001 x185002 x185003 x185004 x185005)) else (none))) else (some true)
def spec_l06Valid.l1 : Nat → List Int → Int → Int → List Int → List Int → List Int → List Int → List (S110) → Option (Bool)
 | 0, _, _, _, _, _, _, _, _ => none
 | k + 1, x0, x6, x185000, x185001, x185002, x185003, x185004, x185005 => if x6 < (x185005.length : Int) then (if 0 ≤ x6 then ((spec_l05Inside.f k x0 ((rd_T110 x185005 x6).f0)).bind fun t190 => (if t190 = true then (spec_l06Valid.l1 k x0 (wrap64 (x6 + 1)) x185000 x185001 x185002 x185003 x185004 x185005) else (some false))) else (none)) else (some true)
end
def spec_l06Valid.f (k : Nat) (l0 : List Int) (a1_0 : Int) (l1_1 : List Int) (l1_2 : List Int) (l1_3 : List Int) (l1_4 : List Int) (l1_5 : List (S110)) : Option (Bool) := (spec_l05Dims.f k l0).bind fun t185 => (if t185 = true then ((spec_l06Formed.f k a1_0 l1_1 l1_2 l1_3 l1_4 l1_5).bind fun t186 => (spec_l06Valid.j0 k l0 (!t186) a1_0 l1_1 l1_2 l1_3 l1_4 l1_5)) else (spec_l06Valid.j0 k l0 true a1_0 l1_1 l1_2 l1_3 l1_4 l1_5))
def spec_l06Valid.T10 : Bool × List (List Nat × List Nat) := (true, [([], []), ([], []), ([0, 1], [0, 1]), ([], []), ([], []), ([3, 4], [3, 4]), ([5], [5]), ([2, 6], [2, 6])])
def spec_l06Valid.B10 : List Nat := [0, 0, 3, 0, 0, 24, 56, 127]
theorem spec_l06Valid.tab10 : rtab .any (opsOf Try.f77 10) = spec_l06Valid.T10 := by kernel_rfl
theorem spec_l06Valid.bits10 : waitsOk spec_l06Valid.T10.2 spec_l06Valid.B10 = true := by kernel_rfl
theorem spec_l06Valid.calls (k : Nat) (A0 : Option Addr) (c0 : Nat) (l0 : List Int) (a1_0 : Int) (A1_1 : Option Addr) (c1_1 : Nat) (l1_1 : List Int) (A1_2 : Option Addr) (c1_2 : Nat) (l1_2 : List Int) (A1_3 : Option Addr) (c1_3 : Nat) (l1_3 : List Int) (A1_4 : Option Addr) (c1_4 : Nat) (l1_4 : List Int) (A1_5 : Option Addr) (c1_5 : Nat) (l1_5 : List (S110)) (r : Bool) (w : World) (C0 : Cm (Kd.int .i64) w A0 c0 l0) (C1_1 : Cm (Kd.int .i64) w A1_1 c1_1 l1_1) (C1_2 : Cm (Kd.int .i64) w A1_2 c1_2 l1_2) (C1_3 : Cm (Kd.int .i64) w A1_3 c1_3 l1_3) (C1_4 : Cm (Kd.int .i64) w A1_4 c1_4 l1_4) (C1_5 : Cm k110 w A1_5 c1_5 l1_5) (h : spec_l06Valid.f k l0 a1_0 l1_1 l1_2 l1_3 l1_4 l1_5 = some r) :
 Calls Try.prog 77 #[.slice A0 l0.length c0, .agg #[.int .i64 a1_0, .slice A1_1 l1_1.length c1_1, .slice A1_2 l1_2.length c1_2, .slice A1_3 l1_3.length c1_3, .slice A1_4 l1_4.length c1_4, .slice A1_5 l1_5.length c1_5]] w fun e w' => e = .returned (.bool r) ∧ Below w.heap.size w w' := by
 have hu55 := Try.underlying55
 have HB := yD (Below.refl w.heap.size w)
 have H : ((spec_l05Dims.f k l0).bind fun t185 => (if t185 = true then ((spec_l06Formed.f k a1_0 l1_1 l1_2 l1_3 l1_4 l1_5).bind fun t186 => (spec_l06Valid.j0 k l0 (!t186) a1_0 l1_1 l1_2 l1_3 l1_4 l1_5)) else (spec_l06Valid.j0 k l0 true a1_0 l1_1 l1_2 l1_3 l1_4 l1_5))) = some r := h
 clear h
 have HC3 := yD H
 clear H; go_enter Try.func77, Try.ntmps77
 go_upto_region 1 with (first | ((with_reducible refine gate_dst (N := 3) rfl ?_); refine bF (N := 3) (cs := #[.int .i64 a1_0, .slice A1_1 l1_1.length c1_1, .slice A1_2 l1_2.length c1_2, .slice A1_3 l1_3.length c1_3, .slice A1_4 l1_4.length c1_4, .slice A1_5 l1_5.length c1_5]) (t := 55) HB ?_; intro gb184 w4 BK184 GW184 HB))
 (try simp only [Act.put, zH, zI, zJ])
 go_cut [14] (fun v14 wc => ∃ (kq : Nat) (x14_2 : Bool), v14 = .bool x14_2 ∧ Aside0 (spec_l06Valid.j0 kq l0 x14_2 a1_0 l1_1 l1_2 l1_3 l1_4 l1_5 = some r) ∧ Aside0 (kq ≤ k) ∧ Aside0 (wc.heap[gb184]? = some (.cells #[.int .i64 a1_0, (.slice A1_1 l1_1.length c1_1), (.slice A1_2 l1_2.length c1_2), (.slice A1_3 l1_3.length c1_3), (.slice A1_4 l1_4.length c1_4), (.slice A1_5 l1_5.length c1_5)] 55 (0, 0))) ∧ Aside0 (Below w.heap.size w wc))
 case first =>
  have H := HC3.out; clear HC3
  replace ⟨t185, A5, H⟩ := sV H
  replace H := sS H; rcases H with ⟨rfl, H⟩ | ⟨rfl, H⟩
  ·
   have H' := yD H
   clear H
   go_wp2_with (first | ((with_reducible refine gate_callee (f := 90) rfl ?_); refine gL 8 Try.func90 _ (dm (spec_l05Dims.calls k _ _ l0 false _ (C0.b HB) A5.out) fun nd => ?_)))
   go_meet
   case rel => exact ⟨_, (true), kF, H', ⟨by first | omega | exact Nat.le_refl _⟩, ⟨kM BK184⟩, ⟨kR0 HB⟩⟩
  replace ⟨t186, A7, H⟩ := sV H
  have H' := yD H
  clear H
  go_wp2_with (first | ((with_reducible refine gate_callee (f := 90) rfl ?_); refine gL 8 Try.func90 _ (dm (spec_l05Dims.calls k _ _ l0 true _ (C0.b HB) A5.out) fun nd => ?_); have := cf6_ BK184.out) | (go_at_call 110; (with_reducible refine (spec_l06Formed.calls k a1_0 _ _ l1_1 _ _ l1_2 _ _ l1_3 _ _ l1_4 _ _ l1_5 t186 _ (C1_1.b HB) (C1_2.b HB) (C1_3.b HB) (C1_4.b HB) (C1_5.b HB) A7.out).mono ?_); rintro e w9 ⟨rfl, hb⟩; replace BK184 := zY BK184 hb; replace HB := zX HB hb; clear hb))
  go_meet
  case rel => exact ⟨_, (!t186), kF, H', ⟨by first | omega | exact Nat.le_refl _⟩, ⟨kM BK184⟩, ⟨kR0 HB⟩⟩
 case rest =>
  clear HC3
  obtain ⟨kq, x14_2, rfl, HA, HJ2, BK184, HB⟩ := hcut
  cases kq with
  | zero => exact absurd HA.out (by simp [spec_l06Valid.j0])
  | succ kj2 =>
   have H := HA.out; clear HA
   simp only [spec_l06Valid.j0] at H
   replace H := sT H; rcases H with ⟨rfl, H⟩ | ⟨rfl, H⟩
   · obtain rfl := sJ H
     go_wp2
     go_ret
     exact ⟨kE, kR0 HB⟩
   replace H := sP H; rcases H with ⟨c11, c11b0, c11b1, H⟩ | ⟨-, c11b0, c11b1, H⟩
   ·
    replace H := sP H; rcases H with ⟨c23, c23b0, c23b1, H⟩ | ⟨-, c23b0, c23b1, H⟩
    ·
     obtain rfl := sJ H
     have := cf6_ BK184.out
     go_wp2
     go_ret
     exact ⟨kE, kR0 HB⟩
    have H' := yD H
    clear H
    have := cf6_ BK184.out
    go_wp2
    go_loopg [6] kj2 (fun kq v6 w' => ∃ (x6_2 : Int), v6 = .int .i64 x6_2 ∧ Aside0 (spec_l06Valid.l1 kq l0 x6_2 a1_0 l1_1 l1_2 l1_3 l1_4 l1_5 = some r) ∧ Aside0 (kq ≤ kj2) ∧ Aside0 (w'.heap[gb184]? = some (.cells #[.int .i64 a1_0, (.slice A1_1 l1_1.length c1_1), (.slice A1_2 l1_2.length c1_2), (.slice A1_3 l1_3.length c1_3), (.slice A1_4 l1_4.length c1_4), (.slice A1_5 l1_5.length c1_5)] 55 (0, 0))) ∧ Aside0 (Below w.heap.size w w'))
    case atStart => exact ⟨(0), kF, H', ⟨Nat.le_refl _⟩, ⟨kM BK184⟩, ⟨kR0 HB⟩⟩
    case round =>
     clear H'
     obtain ⟨x6_2, rfl, HA, HK2, BK184, HB⟩ := hrel
     cases gk with
     | zero => exact absurd HA.out (by simp [spec_l06Valid.l1])
     | succ k2 =>
      have H := HA.out; clear HA
      simp only [spec_l06Valid.l1] at H
      replace H := sG H; rcases H with ⟨c25b0, H⟩ | ⟨c25b0, H⟩
      ·
       obtain rfl := sJ H
       have := cf6_ BK184.out
       go_wp2
       go_ret
       exact ⟨kE, kR0 HB⟩
      replace ⟨c26b0, H⟩ := sE H
      replace ⟨t190, A27, H⟩ := sV H
      replace H := sS H; rcases H with ⟨rfl, H⟩ | ⟨rfl, H⟩
      ·
       obtain rfl := sJ H
       have := cf6_ BK184.out
       obtain ⟨p189, q189, ad189, A189_0, c189_0, e189, hx189_0, HC189_0, HR189_0⟩ := sI (at_T110 C1_5.r x6_2)
       cases e189
       replace hx189_0 := kD HB hx189_0
       go_wp2_with (first | ((with_reducible refine gate_callee (f := 94) rfl ?_); refine gL 55 Try.func94 _ (dm (spec_l05Inside.calls k2 _ _ l0 _ _ ((rd_T110 l1_5 x6_2).f0) false _ (C0.b HB) (cB HR189_0 HC189_0 HB) A27.out) fun nd => ?_)))
       go_ret
       exact ⟨kE, kR0 HB⟩
      have H' := yD H
      clear H
      have := cf6_ BK184.out
      obtain ⟨p189, q189, ad189, A189_0, c189_0, e189, hx189_0, HC189_0, HR189_0⟩ := sI (at_T110 C1_5.r x6_2)
      cases e189
      replace hx189_0 := kD HB hx189_0
      go_wp2_with (first | ((with_reducible refine gate_callee (f := 94) rfl ?_); refine gL 55 Try.func94 _ (dm (spec_l05Inside.calls k2 _ _ l0 _ _ ((rd_T110 l1_5 x6_2).f0) true _ (C0.b HB) (cB HR189_0 HC189_0 HB) A27.out) fun nd => ?_)))
      go_roundg k2
      case measure => have := HJ2.out; have := HK2.out; omega
      case rel => exact ⟨(wrap64 (x6_2 + 1)), kF, H', ⟨by have := HJ2.out; have := HK2.out; omega⟩, ⟨kM BK184⟩, ⟨kR0 HB⟩⟩
   replace H := sP H; rcases H with ⟨c12, c12b0, c12b1, H⟩ | ⟨c12, c12b0, c12b1, H⟩
   ·
    have c12b2 : (l1_1.length == l0.length) = false := by first | simpa using c12 | (simp at c12 ⊢; omega)
    obtain rfl := sJ H
    have := cf6_ BK184.out
    go_wp2
    go_ret
    exact ⟨kE, kR0 HB⟩
   have c12b2 : (l1_1.length == l0.length) = true := by first | simpa using c12 | (simp at c12 ⊢; omega)
   clear c12
   have H' := yD H
   clear H
   have := cf6_ BK184.out
   go_wp2
   go_loopg [5] kj2 (fun kq v5 w' => ∃ (x5_2 : Int), v5 = .int .i64 x5_2 ∧ Aside0 (spec_l06Valid.l0 kq l0 x5_2 a1_0 l1_1 l1_2 l1_3 l1_4 l1_5 = some r) ∧ Aside0 (kq ≤ kj2) ∧ Aside0 (w'.heap[gb184]? = some (.cells #[.int .i64 a1_0, (.slice A1_1 l1_1.length c1_1), (.slice A1_2 l1_2.length c1_2), (.slice A1_3 l1_3.length c1_3), (.slice A1_4 l1_4.length c1_4), (.slice A1_5 l1_5.length c1_5)] 55 (0, 0))) ∧ Aside0 (Below w.heap.size w w'))
   case atStart => exact ⟨(0), kF, H', ⟨Nat.le_refl _⟩, ⟨kM BK184⟩, ⟨kR0 HB⟩⟩
   case round =>
    clear H'
    obtain ⟨x5_2, rfl, HA, HK2, BK184, HB⟩ := hrel
    cases gk with
    | zero => exact absurd HA.out (by simp [spec_l06Valid.l0])
    | succ k2 =>
     have H := HA.out; clear HA
     simp only [spec_l06Valid.l0] at H
     replace H := sG H; rcases H with ⟨c14b0, H⟩ | ⟨c14b0, H⟩
     · obtain rfl := sJ H
       go_wp2
       go_ret
       exact ⟨kE, kR0 HB⟩
     replace ⟨t187, A15, H⟩ := sV H
     replace ⟨c16b0, H⟩ := sE H
     replace H := sB H; rcases H with ⟨c17, H⟩ | ⟨c17, H⟩
     ·
      have c17b0 : decide ((rd l0 x5_2) < t187) = true := zR c17; clear c17; obtain rfl := sJ H
      try go_wp2
      replace BK184 := yD (yO BK184.out); replace HB := yD (yP HB.out)
      obtain ⟨p188, q188, ad188, e188, hx188_0⟩ := sI (Kd.at_int C0.r x5_2)
      have hw188_0 := hx188_0; cases e188
      replace hx188_0 := kD HB hx188_0
      refine s0 (m := 8) (S := fun w' => cl w' gb184 0 (.int .i64 a1_0) ∧ cl w' gb184 1 (.slice A1_1 l1_1.length c1_1) ∧ cl w' gb184 2 (.slice A1_2 l1_2.length c1_2) ∧ cl w' gb184 3 (.slice A1_3 l1_3.length c1_3) ∧ cl w' gb184 4 (.slice A1_4 l1_4.length c1_4) ∧ cl w' gb184 5 (.slice A1_5 l1_5.length c1_5) ∧ w'.cell? (ad188.add (x5_2).toNat) = some (.int .i64 (rd l0 x5_2))) spec_l06Valid.tab10 spec_l06Valid.bits10 (ca6_ BK184.out ((kC HB hw188_0))) fun hHeld HT_ HW_ => ?_
      generalize wr.drew = w18 at BK184 HB hx188_0 hHeld ⊢
      refine qa 8 1 2 ?_; refine qa 8 3 10 ?_; refine qa 8 4 26 ?_; refine qa 8 5 58 ?_; refine qc 8 0 59 hHeld ?_; refine qc 8 6 123 hHeld ?_
      refine qo 8 2 127 (some 33) fun K hK => ?_
      refine qg Try.func111 _ ((spec_l06End.calls a1_0 _ _ l1_1 _ _ l1_2 _ _ l1_3 _ _ l1_4 _ _ l1_5 x5_2 t187 _ (C1_1.b HB) (C1_2.b HB) (C1_3.b HB) (C1_4.b HB) (C1_5.b HB) A15.out).mono ?_)
      rintro e w19 ⟨rfl, hb⟩
      refine ⟨_, rfl, ?_⟩
      replace BK184 := zY BK184 hb; replace HB := zX HB hb
      refine hK.out _ _ (ca6_ BK184.out ((kC HB hw188_0))) (fun hHeld => ?_)
      clear hK K
      refine nZ 33 ?_
      refine qa 8 7 255 ?_
      refine qd ?_
      try go_wp2
      go_ret
      exact ⟨kE, kR0 HB⟩
     have c17b0 : decide ((rd l0 x5_2) < t187) = false := zS c17; clear c17
     have H' := yD H
     clear H
     try go_wp2
     replace BK184 := yD (yO BK184.out); replace HB := yD (yP HB.out)
     obtain ⟨p188, q188, ad188, e188, hx188_0⟩ := sI (Kd.at_int C0.r x5_2)
     have hw188_0 := hx188_0; cases e188
     replace hx188_0 := kD HB hx188_0
     refine s0 (m := 8) (S := fun w' => cl w' gb184 0 (.int .i64 a1_0) ∧ cl w' gb184 1 (.slice A1_1 l1_1.length c1_1) ∧ cl w' gb184 2 (.slice A1_2 l1_2.length c1_2) ∧ cl w' gb184 3 (.slice A1_3 l1_3.length c1_3) ∧ cl w' gb184 4 (.slice A1_4 l1_4.length c1_4) ∧ cl w' gb184 5 (.slice A1_5 l1_5.length c1_5) ∧ w'.cell? (ad188.add (x5_2).toNat) = some (.int .i64 (rd l0 x5_2))) spec_l06Valid.tab10 spec_l06Valid.bits10 (ca6_ BK184.out ((kC HB hw188_0))) fun hHeld HT_ HW_ => ?_
     generalize wr.drew = w20 at BK184 HB hx188_0 hHeld ⊢
     refine qa 8 1 2 ?_; refine qa 8 3 10 ?_; refine qa 8 4 26 ?_; refine qa 8 5 58 ?_; refine qc 8 0 59 hHeld ?_; refine qc 8 6 123 hHeld ?_
     refine qo 8 2 127 (some 33) fun K hK => ?_
     refine qg Try.func111 _ ((spec_l06End.calls a1_0 _ _ l1_1 _ _ l1_2 _ _ l1_3 _ _ l1_4 _ _ l1_5 x5_2 t187 _ (C1_1.b HB) (C1_2.b HB) (C1_3.b HB) (C1_4.b HB) (C1_5.b HB) A15.out).mono ?_)
     rintro e w21 ⟨rfl, hb⟩
     refine ⟨_, rfl, ?_⟩
     replace BK184 := zY BK184 hb; replace HB := zX HB hb
     refine hK.out _ _ (ca6_ BK184.out ((kC HB hw188_0))) (fun hHeld => ?_)
     clear hK K
     refine nZ 33 ?_
     refine qa 8 7 255 ?_
     refine qd ?_
     try go_wp2
     go_roundg k2
     case measure => have := HJ2.out; have := HK2.out; omega
     case rel => exact ⟨(wrap64 (x5_2 + 1)), kF, H', ⟨by have := HJ2.out; have := HK2.out; omega⟩, ⟨kM BK184⟩, ⟨kR0 HB⟩⟩

/-! ### spec_l05Count: function 91 -/
def spec_l05Count.l0 : Nat → List Int → Int → Int → Option (Int)
 | 0, _, _, _ => none
 | k + 1, x0, x3, x4 => if x4 < (x0.length : Int) then (if 0 ≤ x4 then (spec_l05Count.l0 k x0 (wrap64 (x3 * (rd x0 x4))) (wrap64 (x4 + 1))) else (none)) else (some x3)
def spec_l05Count.f (k : Nat) (l0 : List Int) : Option (Int) := spec_l05Count.l0 k l0 1 0
theorem spec_l05Count.calls (k : Nat) (A0 : Option Addr) (c0 : Nat) (l0 : List Int) (r : Int) (w : World) (C0 : Cm (Kd.int .i64) w A0 c0 l0) (h : spec_l05Count.f k l0 = some r) :
 Calls Try.prog 91 #[.slice A0 l0.length c0] w fun e w' => e = .returned (.int .i64 r) ∧ Drawn0 w w' := by
 have H : (spec_l05Count.l0 k l0 1 0) = some r := h
 clear h
 have H' := yD H
 clear H; go_enter Try.func91, Try.ntmps91
 go_wp2
 go_loopg [3, 4] k (fun kq v3 v4 w' => ∃ (x3_1 : Int) (x4_1 : Int), v3 = .int .i64 x3_1 ∧ v4 = .int .i64 x4_1 ∧ Aside0 (spec_l05Count.l0 kq l0 x3_1 x4_1 = some r) ∧ Aside0 (kq ≤ k) ∧ Drawn0 w w')
 case atStart => exact ⟨(1), (0), kF, kF, H', ⟨Nat.le_refl _⟩, by repeat (first | exact Drawn0.refl _ | apply Drawn0.step)⟩
 case round =>
  clear H'
  obtain ⟨x3_1, x4_1, rfl, rfl, HA, HK1, ⟨m1, rfl⟩⟩ := hrel
  cases gk with
  | zero => exact absurd HA.out (by simp [spec_l05Count.l0])
  | succ k1 =>
   have H := HA.out; clear HA
   simp only [spec_l05Count.l0] at H
   replace H := sG H; rcases H with ⟨c2b0, H⟩ | ⟨c2b0, H⟩
   · obtain rfl := sJ H
     go_wp2
     go_ret
     exact ⟨by first | rfl | (simp; done) | (simp [*]; done), by repeat (first | exact Drawn0.refl _ | apply Drawn0.step)⟩
   replace ⟨c3b0, H⟩ := sE H
   have H' := yD H
   clear H
   obtain ⟨p191, q191, ad191, e191, hx191_0⟩ := sI (Kd.at_int C0.r x4_1)
   cases e191
   go_wp2
   go_roundg k1
   case measure => have := HK1.out; omega
   case rel => exact ⟨(wrap64 (x3_1 * (rd l0 x4_1))), (wrap64 (x4_1 + 1)), kF, kF, H', ⟨by have := HK1.out; omega⟩, by repeat (first | exact Drawn0.refl _ | apply Drawn0.step)⟩

/-! ### spec_l00Own: function 71 -/
def spec_l00Own.f (l0 : List Int) : Option (List Int) := (some (([] : List Int) : List Int)).bind fun y192 => (if y192.length + l0.length < 17592186044416 then (some (y192 ++ l0)) else (none))
theorem spec_l00Own.calls (A0 : Option Addr) (c0 : Nat) (l0 : List Int) (r : List Int) (w : World) (C0 : Cm (Kd.int .i64) w A0 c0 l0) (h : spec_l00Own.f l0 = some r) :
 Calls Try.prog 71 #[.slice A0 l0.length c0] w fun e w' => ∃ v0_ : Value, e = .returned (v0_) ∧ Kd.R (Kd.int .i64) 2 w' w.heap.size (fun _ => True) v0_ r ∧ Below w.heap.size w w' := by
 have HB := yD (Below.refl w.heap.size w)
 have H : ((some (([] : List Int) : List Int)).bind fun y192 => (if y192.length + l0.length < 17592186044416 then (some (y192 ++ l0)) else (none))) = some r := h
 clear h
 obtain ⟨y192, hy192⟩ : ∃ y_ : List Int, y_ = (([] : List Int)) := ⟨_, rfl⟩
 replace H : (if y192.length + l0.length < 17592186044416 then (some (y192 ++ l0)) else (none)) = some r := by first | (rw [hy192]; with_reducible exact H) | (have H2_ := (Option.bind_some _ _).symm.trans H; rw [hy192]; with_reducible exact H2_) | (have H2_ := (Option.bind_some _ _).symm.trans H; with_reducible exact H2_) | with_reducible exact H | (rw [hy192]; exact H) | exact H
 have Ny192 := yD hy192
 clear hy192
 replace ⟨LMc2, H⟩ := sM H
 obtain ⟨y195, hy195⟩ : ∃ y_ : List Int, y_ = (y192 ++ l0) := ⟨_, rfl⟩
 replace H : (some y195) = some r := by first | (rw [hy195]; with_reducible exact H) | (have H2_ := (Option.bind_some _ _).symm.trans H; rw [hy195]; with_reducible exact H2_) | (have H2_ := (Option.bind_some _ _).symm.trans H; with_reducible exact H2_) | with_reducible exact H | (rw [hy195]; exact H) | exact H
 have Ny195 := yD hy195
 clear hy195; obtain rfl := sJ H; go_enter Try.func71, Try.ntmps71
 go_wp2_with (first | ((with_reducible refine gate_dst (N := 3) rfl ?_); refine Kd.R_lit (Kd.int .i64) _ 2 ?hg (N := 3) ?hd (xs := ([] : List Int)) (inner := []) (ok := fun _ => True) (okp := fun _ => True) ?hr ?hp (fun _ hk => hk) trivial (Below.refl _ _) (Nat.le_refl _) (by simp) ?_; (case hd => rfl); (case hg => rfl); (case hr => first | (go_simp; done) | (go_simp; rfl)); (case hp => exact (Reps.none _ _)); intro v193 w3 ho4 hb hg_ hnew_; clear hg_ hnew_; (first | rw [← Ny192.out] at ho4 | (simp only [Int.reduceToNat] at ho4; rw [← Ny192.out] at ho4)); have HO194 := yD (yZ ho4 (below_size (kB HB))); replace HB := zX HB hb; clear hb ho4) | ((with_reducible refine gate_builtin (b := .append) (xs := #[.tmp 3, .tmp 4]) rfl ?_); at_builtin; refine Kd.R_append_rows (Kd.int .i64) (w0 := w) w.heap.size rfl (.tmp 3) (.tmp 4) 36 2 (.int .i64 0) 8 rfl Try.underlying36 info2 rfl (by decide) (by omega) v193 y192 l0 _ _ _ (fun _ => True) (fun _ => False) rfl rfl ?aO ?aR (fun _ _ h => h) (fun _ h => h.elim) ?aF ?aB ?aS ?aL ?_; (case aR => exact kV (yY C0.r HB.out)); (case aB => exact (kB HB)); (case aF => exact (fun _ _ => trivial)); (case aO => exact (kA HO194)); (case aS => exact (below_size (kB HB))); (case aL => have := LMc2.out; omega); intro v196 w5 ho hb hg hat; rw [← Ny195.out] at ho; replace HB := yD (hb); have HO197 := yD (ho); clear HO194; clear ho hb hg hat))
 go_ret
 exact ⟨_, kE, kA HO197, kR1 HB⟩

/-! ### spec_l05Index: function 96 -/
def spec_l05Index.l0 : Nat → List Int → List Int → Int → Int → Option (Int)
 | 0, _, _, _, _ => none
 | k + 1, x0, x1, x5, x6 => if x6 < (x0.length : Int) then (if 0 ≤ x6 then (if x6 < (x1.length : Int) then (spec_l05Index.l0 k x0 x1 (wrap64 ((wrap64 (x5 * (rd x0 x6))) + (rd x1 x6))) (wrap64 (x6 + 1))) else (none)) else (none)) else (some x5)
def spec_l05Index.f (k : Nat) (l0 : List Int) (l1 : List Int) : Option (Int) := spec_l05Index.l0 k l0 l1 0 0
theorem spec_l05Index.calls (k : Nat) (A0 : Option Addr) (c0 : Nat) (l0 : List Int) (A1 : Option Addr) (c1 : Nat) (l1 : List Int) (r : Int) (w : World) (C0 : Cm (Kd.int .i64) w A0 c0 l0) (C1 : Cm (Kd.int .i64) w A1 c1 l1) (h : spec_l05Index.f k l0 l1 = some r) :
 Calls Try.prog 96 #[.slice A0 l0.length c0, .slice A1 l1.length c1] w fun e w' => e = .returned (.int .i64 r) ∧ Drawn0 w w' := by
 have H : (spec_l05Index.l0 k l0 l1 0 0) = some r := h
 clear h
 have H' := yD H
 clear H; go_enter Try.func96, Try.ntmps96
 go_wp2
 repeat (go_quiet (fail); try go_wp2)
 go_loopg [5, 6] k (fun kq v5 v6 w' => ∃ (x5_1 : Int) (x6_1 : Int), v5 = .int .i64 x5_1 ∧ v6 = .int .i64 x6_1 ∧ Aside0 (spec_l05Index.l0 kq l0 l1 x5_1 x6_1 = some r) ∧ Aside0 (kq ≤ k) ∧ Drawn0 w w')
 case atStart => exact ⟨(0), (0), kF, kF, H', ⟨Nat.le_refl _⟩, by repeat (first | exact Drawn0.refl _ | apply Drawn0.step)⟩
 case round =>
  clear H'
  obtain ⟨x5_1, x6_1, rfl, rfl, HA, HK1, ⟨m1, rfl⟩⟩ := hrel
  cases gk with
  | zero => exact absurd HA.out (by simp [spec_l05Index.l0])
  | succ k1 =>
   have H := HA.out; clear HA
   simp only [spec_l05Index.l0] at H
   replace H := sG H; rcases H with ⟨c3b0, H⟩ | ⟨c3b0, H⟩
   · obtain rfl := sJ H
     go_wp2
     repeat (go_quiet (fail); try go_wp2)
     go_ret
     exact ⟨by first | rfl | (simp; done) | (simp [*]; done), by repeat (first | exact Drawn0.refl _ | apply Drawn0.step)⟩
   replace ⟨c4b0, H⟩ := sE H
   replace ⟨c5b0, H⟩ := sE H
   have H' := yD H
   clear H
   obtain ⟨p198, q198, ad198, e198, hx198_0⟩ := sI (Kd.at_int C0.r x6_1)
   cases e198
   obtain ⟨p199, q199, ad199, e199, hx199_0⟩ := sI (Kd.at_int C1.r x6_1)
   cases e199
   go_wp2
   repeat (go_quiet (fail); try go_wp2)
   go_roundg k1
   case measure => have := HK1.out; omega
   case rel => exact ⟨(wrap64 ((wrap64 (x5_1 * (rd l0 x6_1))) + (rd l1 x6_1))), (wrap64 (x6_1 + 1)), kF, kF, H', ⟨by have := HK1.out; omega⟩, by repeat (first | exact Drawn0.refl _ | apply Drawn0.step)⟩
/-! ### spec_l06Axis: function 112 -/
mutual
def spec_l06Axis.l0 : Nat → Int → List Int → Int → Int → List Int → List Int → List Int → List Int → List (S110) → Option (List Int)
 | 0, _, _, _, _, _, _, _, _, _ => none
 | k + 1, x1, x5, x6, x201000, x201001, x201002, x201003, x201004, x201005 => if 0 ≤ x1 then (if x1 < (x201003.length : Int) then (if x6 < (rd x201003 x1) then (spec_l06Axis.l1 k x1 x5 x6 0 x201000 x201001 x201002 x201003 x201004 x201005) else (some x5)) else (none)) else (none)
def spec_l06Axis.l1 : Nat → Int → List Int → Int → Int → Int → List Int → List Int → List Int → List Int → List (S110) → Option (List Int)
 | 0, _, _, _, _, _, _, _, _, _, _ => none
 | k + 1, x1, x5, x6, x7, x201000, x201001, x201002, x201003, x201004, x201005 => if 0 ≤ x1 then (if x1 < (x201004.length : Int) then (if x7 < (rd x201004 x1) then (if x1 < (x201001.length : Int) then (if x1 < (x201002.length : Int) then (if x5.length < 17592186044416 then (spec_l06Axis.l1 k x1 (x5 ++ [wrap64 ((wrap64 ((rd x201001 x1) + (wrap64 (x6 * (rd x201002 x1))))) + x7)]) x6 (wrap64 (x7 + 1)) x201000 x201001 x201002 x201003 x201004 x201005) else (none)) else (none)) else (none)) else (spec_l06Axis.l0 k x1 x5 (wrap64 (x6 + 1)) x201000 x201001 x201002 x201003 x201004 x201005)) else (none)) else (none)
end
def spec_l06Axis.f (k : Nat) (a0_0 : Int) (l0_1 : List Int) (l0_2 : List Int) (l0_3 : List Int) (l0_4 : List Int) (l0_5 : List (S110)) (a1 : Int) : Option (List Int) := spec_l06Axis.l0 k a1 (([] : List Int)) 0 a0_0 l0_1 l0_2 l0_3 l0_4 l0_5
def spec_l06Axis.T8 : Bool × List (List Nat × List Nat) := (true, [([], []), ([], []), ([1], [1]), ([], []), ([2, 3], [2, 3]), ([4], [4]), ([], []), ([], []), ([7], [7]), ([], []), ([8, 9], [8, 9]), ([10], [10]), ([6, 11], [6, 11]), ([5, 12], [5, 12]), ([], []), ([13, 14], [13, 14]), ([15], [15]), ([0, 16], [0, 16]), ([17, 17, 0, 1, 2, 3, 4, 5, 6, 7, 8, 9, 10, 11, 12, 13, 14, 15, 16, 17], [0, 17])])
def spec_l06Axis.B8 : List Nat := [0, 0, 2, 0, 14, 30, 0, 0, 128, 0, 896, 1920, 4032, 8190, 0, 32766, 65534, 131071, 262143]
theorem spec_l06Axis.tab8 : rtab .any (opsOf Try.f112 8) = spec_l06Axis.T8 := by kernel_rfl
theorem spec_l06Axis.bits8 : waitsOk spec_l06Axis.T8.2 spec_l06Axis.B8 = true := by kernel_rfl
theorem spec_l06Axis.calls (k : Nat) (a0_0 : Int) (A0_1 : Option Addr) (c0_1 : Nat) (l0_1 : List Int) (A0_2 : Option Addr) (c0_2 : Nat) (l0_2 : List Int) (A0_3 : Option Addr) (c0_3 : Nat) (l0_3 : List Int) (A0_4 : Option Addr) (c0_4 : Nat) (l0_4 : List Int) (A0_5 : Option Addr) (c0_5 : Nat) (l0_5 : List (S110)) (a1 : Int) (r : List Int) (w : World) (C0_1 : Cm (Kd.int .i64) w A0_1 c0_1 l0_1) (C0_2 : Cm (Kd.int .i64) w A0_2 c0_2 l0_2) (C0_3 : Cm (Kd.int .i64) w A0_3 c0_3 l0_3) (C0_4 : Cm (Kd.int .i64) w A0_4 c0_4 l0_4) (C0_5 : Cm k110 w A0_5 c0_5 l0_5) (h : spec_l06Axis.f k a0_0 l0_1 l0_2 l0_3 l0_4 l0_5 a1 = some r) :
 Calls Try.prog 112 #[.agg #[.int .i64 a0_0, .slice A0_1 l0_1.length c0_1, .slice A0_2 l0_2.length c0_2, .slice A0_3 l0_3.length c0_3, .slice A0_4 l0_4.length c0_4, .slice A0_5 l0_5.length c0_5], .int .i64 a1] w fun e w' => ∃ v0_ : Value, e = .returned (v0_) ∧ Kd.R (Kd.int .i64) 2 w' w.heap.size (fun _ => True) v0_ r ∧ Below w.heap.size w w' := by
 have hu55 := Try.underlying55
 have HB := yD (Below.refl w.heap.size w)
 have H : (spec_l06Axis.l0 k a1 (([] : List Int)) 0 a0_0 l0_1 l0_2 l0_3 l0_4 l0_5) = some r := h
 clear h
 obtain ⟨y201, hy201⟩ : ∃ y_ : List Int, y_ = (([] : List Int)) := ⟨_, rfl⟩
 replace H : (spec_l06Axis.l0 k a1 y201 0 a0_0 l0_1 l0_2 l0_3 l0_4 l0_5) = some r := by first | (rw [hy201]; with_reducible exact H) | (have H2_ := (Option.bind_some _ _).symm.trans H; rw [hy201]; with_reducible exact H2_) | (have H2_ := (Option.bind_some _ _).symm.trans H; with_reducible exact H2_) | with_reducible exact H | (rw [hy201]; exact H) | exact H
 have Ny201 := yD hy201
 clear hy201
 have H' := yD H
 clear H; go_enter Try.func112, Try.ntmps112
 go_wp2_with (first | ((with_reducible refine gate_dst (N := 2) rfl ?_); refine bF (N := 2) (cs := #[.int .i64 a0_0, .slice A0_1 l0_1.length c0_1, .slice A0_2 l0_2.length c0_2, .slice A0_3 l0_3.length c0_3, .slice A0_4 l0_4.length c0_4, .slice A0_5 l0_5.length c0_5]) (t := 55) HB ?_; intro gb200 w3 BK200 GW200 HB) | ((with_reducible refine gate_dst (N := 8) rfl ?_); refine Kd.R_lit (Kd.int .i64) _ 2 ?hg (N := 8) ?hd (xs := ([] : List Int)) (inner := []) (ok := fun _ => True) (okp := fun _ => True) ?hr ?hp (fun _ hk => hk) trivial (Below.refl _ _) (Nat.le_refl _) (by simp) ?_; (case hd => rfl); (case hg => rfl); (case hr => first | (go_simp; done) | (go_simp; rfl)); (case hp => exact (Reps.none _ _)); intro v202 w4 ho5 hb hg_ hnew_; clear hg_ hnew_; (first | rw [← Ny201.out] at ho5 | (simp only [Int.reduceToNat] at ho5; rw [← Ny201.out] at ho5)); have HO203 := yD (yZ ho5 (below_size (kB HB))); replace BK200 := zY BK200 hb; replace HB := zX HB hb; clear hb ho5))
 (try simp only [Act.put, zH, zI, zJ])
 go_loopg [5, 6] k (fun kq v5 v6 w' => ∃ (x5_1 : List Int) (x6_1 : Int), v6 = .int .i64 x6_1 ∧ Aside0 (spec_l06Axis.l0 kq a1 x5_1 x6_1 a0_0 l0_1 l0_2 l0_3 l0_4 l0_5 = some r) ∧ Aside0 (kq ≤ k) ∧ Aside0 (Kd.R (Kd.int .i64) 2 w' w.heap.size (fun _ => True) v5 x5_1) ∧ Aside0 (w'.heap[gb200]? = some (.cells #[.int .i64 a0_0, (.slice A0_1 l0_1.length c0_1), (.slice A0_2 l0_2.length c0_2), (.slice A0_3 l0_3.length c0_3), (.slice A0_4 l0_4.length c0_4), (.slice A0_5 l0_5.length c0_5)] 55 (0, 0))) ∧ Aside0 (Below w.heap.size w w'))
 case atStart => exact ⟨(y201), (0), kF, H', ⟨Nat.le_refl _⟩, ⟨kA HO203⟩, ⟨kM BK200⟩, ⟨kR0 HB⟩⟩
 case round =>
  clear H'
  obtain ⟨x5_1, x6_1, rfl, HA, HK1, HO_5, BK200, HB⟩ := hrel
  cases gk with
  | zero => exact absurd HA.out (by simp [spec_l06Axis.l0])
  | succ k1 =>
   have H := HA.out; clear HA
   simp only [spec_l06Axis.l0] at H
   replace ⟨c6b0, H⟩ := sE H
   replace ⟨c7b0, H⟩ := sE H
   replace H := sG H; rcases H with ⟨c8b0, H⟩ | ⟨c8b0, H⟩
   ·
    obtain rfl := sJ H
    have := cf6_ BK200.out
    obtain ⟨p204, q204, ad204, e204, hx204_0⟩ := sI (Kd.at_int C0_3.r a1)
    cases e204
    replace hx204_0 := kD HB hx204_0
    go_wp2
    go_ret
    exact ⟨_, kE, kA HO_5, kR0 HB⟩
   have H' := yD H
   clear H
   have := cf6_ BK200.out
   obtain ⟨p204, q204, ad204, e204, hx204_0⟩ := sI (Kd.at_int C0_3.r a1)
   cases e204
   replace hx204_0 := kD HB hx204_0
   go_wp2
   go_loopg [5, 7] k1 (fun kq v5 v7 w' => ∃ (x5_2 : List Int) (x7_2 : Int), v7 = .int .i64 x7_2 ∧ Aside0 (spec_l06Axis.l1 kq a1 x5_2 x6_1 x7_2 a0_0 l0_1 l0_2 l0_3 l0_4 l0_5 = some r) ∧ Aside0 (kq ≤ k1) ∧ Aside0 (Kd.R (Kd.int .i64) 2 w' w.heap.size (fun _ => True) v5 x5_2) ∧ Aside0 (w'.heap[gb200]? = some (.cells #[.int .i64 a0_0, (.slice A0_1 l0_1.length c0_1), (.slice A0_2 l0_2.length c0_2), (.slice (some ad204) l0_3.length c0_3), (.slice A0_4 l0_4.length c0_4), (.slice A0_5 l0_5.length c0_5)] 55 (0, 0))) ∧ Aside0 (Below w.heap.size w w'))
   case atStart => exact ⟨(x5_1), (0), kF, H', ⟨Nat.le_refl _⟩, ⟨kA HO_5⟩, ⟨kM BK200⟩, ⟨kR0 HB⟩⟩
   case round =>
    clear H'
    obtain ⟨x5_2, x7_2, rfl, HA, HK2, HO_5, BK200, HB⟩ := hrel
    cases gk with
    | zero => exact absurd HA.out (by simp [spec_l06Axis.l1])
    | succ k2 =>
     have H := HA.out; clear HA
     simp only [spec_l06Axis.l1] at H
     replace ⟨c10b0, H⟩ := sE H
     replace ⟨c11b0, H⟩ := sE H
     replace H := sG H; rcases H with ⟨c12b0, H⟩ | ⟨c12b0, H⟩
     ·
      have H' := yD H
      clear H
      have := cf6_ BK200.out
      obtain ⟨p205, q205, ad205, e205, hx205_0⟩ := sI (Kd.at_int C0_4.r a1)
      cases e205
      replace hx205_0 := kD HB hx205_0
      go_wp2
      go_roundg k2
      case measure => have := HK1.out; have := HK2.out; omega
      case rel => exact ⟨(x5_2), (wrap64 (x6_1 + 1)), kF, H', ⟨by have := HK1.out; have := HK2.out; omega⟩, ⟨kA HO_5⟩, ⟨kM BK200⟩, ⟨kR0 HB⟩⟩
     replace ⟨c13b0, H⟩ := sE H
     replace ⟨c14b0, H⟩ := sE H
     replace ⟨LMc15, H⟩ := sM H
     generalize hy208 : ((x5_2 ++ [wrap64 ((wrap64 ((rd l0_1 a1) + (wrap64 (x6_1 * (rd l0_2 a1))))) + x7_2)]) : List Int) = y208 at H
     have Ny208 := yD hy208.symm
     clear hy208
     have H' := yD H
     clear H
     have := cf6_ BK200.out
     obtain ⟨p205, q205, ad205, e205, hx205_0⟩ := sI (Kd.at_int C0_4.r a1)
     cases e205
     replace hx205_0 := kD HB hx205_0
     try go_wp2
     replace HO_5 := yD (yC HO_5.out); replace BK200 := yD (yO BK200.out); replace HB := yD (yP HB.out)
     obtain ⟨p206, q206, ad206, e206, hx206_0⟩ := sI (Kd.at_int C0_1.r a1)
     have hw206_0 := hx206_0; cases e206
     replace hx206_0 := kD HB hx206_0
     obtain ⟨p207, q207, ad207, e207, hx207_0⟩ := sI (Kd.at_int C0_2.r a1)
     have hw207_0 := hx207_0; cases e207
     replace hx207_0 := kD HB hx207_0
     refine s0 (m := 19) (S := fun w' => cl w' gb200 0 (.int .i64 a0_0) ∧ cl w' gb200 1 (.slice (some ad206) l0_1.length c0_1) ∧ cl w' gb200 2 (.slice (some ad207) l0_2.length c0_2) ∧ cl w' gb200 3 (.slice (some ad204) l0_3.length c0_3) ∧ cl w' gb200 4 (.slice (some ad205) l0_4.length c0_4) ∧ cl w' gb200 5 (.slice A0_5 l0_5.length c0_5) ∧ w'.cell? (ad206.add (a1).toNat) = some (.int .i64 (rd l0_1 a1)) ∧ w'.cell? (ad207.add (a1).toNat) = some (.int .i64 (rd l0_2 a1))) spec_l06Axis.tab8 spec_l06Axis.bits8 (ca6_ BK200.out ⟨(kC HB hw206_0), (kC HB hw207_0)⟩) fun hHeld HT_ HW_ => ?_
     generalize wr.drew = w17 at HO_5 BK200 HB hx206_0 hx207_0 hHeld ⊢
     refine qa 19 0 1 ?_; refine qa 19 1 3 ?_; refine qa 19 3 11 ?_; refine qa 19 6 75 ?_; refine qa 19 7 203 ?_; refine qa 19 9 715 ?_; refine qa 19 14 17099 ?_; refine qc 19 2 17103 hHeld ?_; refine qa 19 4 17119 ?_; refine qc 19 5 17151 hHeld ?_; refine qc 19 8 17407 hHeld ?_; refine qa 19 10 18431 ?_; refine qc 19 11 20479 hHeld ?_; refine qa 19 12 24575 ?_; refine qa 19 13 32767 ?_; refine qa 19 15 65535 ?_
     refine qo 19 16 131071 (some 43) fun K hK => ?_
     refine value_ (w1 := ?_) (v := ?_) (by rfl) rfl ?_ ?_
     rotate_left 2
     · go_simp
       constructor
       · rfl
       · rfl
     refine hK.out _ _ (ca6_ (yN BK200.out _) ⟨(World.cell?_alloc_lt _ _ _ (zQ _ _ (kC HB hw206_0))).trans (kC HB hw206_0), (World.cell?_alloc_lt _ _ _ (zQ _ _ (kC HB hw207_0))).trans (kC HB hw207_0)⟩) (fun hHeld => ?_)
     clear hK K
     refine nZ 43 ?_
     refine qo 19 17 262143 (some 44) fun K hK => ?_
     refine Kd.R_append_step (Kd.int .i64) (w0 := w) w.heap.size (by rfl) (.tmp 27) (.tmp 43) 36 2 (.int .i64 0) 8 rfl Try.underlying36 info2 rfl (by decide) (by omega) u5 x5_2 (wrap64 ((wrap64 ((rd l0_1 a1) + (wrap64 (x6_1 * (rd l0_2 a1))))) + x7_2)) [.int .i64 (wrap64 ((wrap64 ((rd l0_1 a1) + (wrap64 (x6_1 * (rd l0_2 a1))))) + x7_2))] (fun _ => True) (fun _ => False) rfl rfl ?aP (fun _ hk => hk.elim) ?aF ?aO ?aB ?aS ?aL ?_
     (case aP => exact rfl)
     (case aB => exact (kB HB))
     (case aF => exact (fun _ _ => trivial))
     (case aO => exact (kA HO_5))
     (case aS => exact (below_size (kB HB)))
     (case aL => have := LMc15.out; omega)
     intro v209 w18 ho hb hg hat
     rw [← Ny208.out] at ho
     have n0_ := yD (blk_grown (g := gb200) (o := .cells #[.int .i64 a0_0, .slice (some ad206) l0_1.length c0_1, .slice (some ad207) l0_2.length c0_2, .slice (some ad204) l0_3.length c0_3, .slice (some ad205) l0_4.length c0_4, .slice A0_5 l0_5.length c0_5] 55 (0, 0)) (kM BK200) hg (Kd.R_ne HO_5.out BK200.out (by decide)))
     have n1_ := yD (hb)
     have n2_ := yD (ho)
     clear BK200 HB HO_5; have BK200 := n0_; have HB := n1_; have HO210 := n2_; clear n0_ n1_ n2_ ho hb hg hat
     refine hK.out _ _ (ca6_ BK200.out ⟨(kC HB hw206_0), (kC HB hw207_0)⟩) (fun hHeld => ?_)
     clear hK K
     refine nZ 44 ?_
     refine qa 19 18 524287 ?_
     refine qd ?_
     try go_wp2
     go_roundg k2
     case measure => have := HK1.out; have := HK2.out; omega
     case rel => exact ⟨(y208), (wrap64 (x7_2 + 1)), kF, H', ⟨by have := HK1.out; have := HK2.out; omega⟩, ⟨kA HO210⟩, ⟨kM BK200⟩, ⟨kR0 HB⟩⟩
/-! ### spec_l06Indices: function 78 -/
mutual
def spec_l06Indices.l0 : Nat → List Int → List Int → Int → Option (List Int)
 | 0, _, _, _ => none
 | k + 1, x0, x5, x6 => (spec_l05Count.f k x0).bind fun t215 => (if x6 < t215 then (if x5.length < 17592186044416 then (spec_l06Indices.l0 k x0 (x5 ++ [x6]) (wrap64 (x6 + 1))) else (none)) else (some x5))
def spec_l06Indices.l1 : Nat → List Int → List Int → Int → Int → List Int → List Int → List Int → List Int → List (S110) → Option (List Int)
 | 0, _, _, _, _, _, _, _, _, _ => none
 | k + 1, x0, x5, x7, x212000, x212001, x212002, x212003, x212004, x212005 => if x7 < (x212005.length : Int) then (if 0 ≤ x7 then ((spec_l05Index.f k x0 ((rd_T110 x212005 x7).f0)).bind fun t220 => (if x5.length < 17592186044416 then (spec_l06Indices.l1 k x0 (x5 ++ [t220]) (wrap64 (x7 + 1)) x212000 x212001 x212002 x212003 x212004 x212005) else (none))) else (none)) else (some x5)
def spec_l06Indices.l2 : Nat → List Int → List Int → Int → Int → List Int → List Int → List Int → List Int → List (S110) → Option (List Int)
 | 0, _, _, _, _, _, _, _, _, _ => none
 | k + 1, x0, x5, x8, x212000, x212001, x212002, x212003, x212004, x212005 => if x8 < (x0.length : Int) then ((spec_l06Axis.f k x212000 x212001 x212002 x212003 x212004 x212005 x8).bind fun t227 => (spec_l06Indices.l3 k x0 x5 x8 t227 (([] : List Int)) 0 x212000 x212001 x212002 x212003 x212004 x212005)) else (some x5)
def spec_l06Indices.l3 : Nat → List Int → List Int → Int → List Int → List Int → Int → Int → List Int → List Int → List Int → List Int → List (S110) → Option (List Int)
 | 0, _, _, _, _, _, _, _, _, _, _, _, _ => none
 | k + 1, x0, x5, x8, x9, x10, x11, x212000, x212001, x212002, x212003, x212004, x212005 => if x11 < (x5.length : Int) then (spec_l06Indices.l4 k x0 x5 x8 x9 x10 x11 0 x212000 x212001 x212002 x212003 x212004 x212005) else (spec_l06Indices.l2 k x0 x10 (wrap64 (x8 + 1)) x212000 x212001 x212002 x212003 x212004 x212005)
def spec_l06Indices.l4 : Nat → List Int → List Int → Int → List Int → List Int → Int → Int → Int → List Int → List Int → List Int → List Int → List (S110) → Option (List Int)
 | 0, _, _, _, _, _, _, _, _, _, _, _, _, _ => none
 | k + 1, x0, x5, x8, x9, x10, x11, x12, x212000, x212001, x212002, x212003, x212004, x212005 => if x12 < (x9.length : Int) then (if 0 ≤ x11 then (if x11 < (x5.length : Int) then (if 0 ≤ x8 then (if x8 < (x0.length : Int) then (if 0 ≤ x12 then (if x10.length < 17592186044416 then (spec_l06Indices.l4 k x0 x5 x8 x9 (x10 ++ [wrap64 ((wrap64 ((rd x5 x11) * (rd x0 x8))) + (rd x9 x12))]) x11 (wrap64 (x12 + 1)) x212000 x212001 x212002 x212003 x212004 x212005) else (none)) else (none)) else (none)) else (none)) else (none)) else (none)) else (spec_l06Indices.l3 k x0 x5 x8 x9 x10 (wrap64 (x11 + 1)) x212000 x212001 x212002 x212003 x212004 x212005)
end
def spec_l06Indices.f (k : Nat) (l0 : List Int) (a1_0 : Int) (l1_1 : List Int) (l1_2 : List Int) (l1_3 : List Int) (l1_4 : List Int) (l1_5 : List (S110)) : Option (List Int) := (some (([] : List Int) : List Int)).bind fun y212 => (if a1_0 = 1 then (spec_l06Indices.l0 k l0 y212 0) else (if a1_0 = 4 then (spec_l06Indices.l1 k l0 y212 0 a1_0 l1_1 l1_2 l1_3 l1_4 l1_5) else (if a1_0 = 3 then (if y212.length < 17592186044416 then (spec_l06Indices.l2 k l0 (y212 ++ [0]) 0 a1_0 l1_1 l1_2 l1_3 l1_4 l1_5) else (none)) else (some y212))))
def spec_l06Indices.T26 : Bool × List (List Nat × List Nat) := (true, [([], []), ([], []), ([], []), ([1, 2], [1, 2]), ([3], [3]), ([], []), ([], []), ([5, 6], [5, 6]), ([7], [7]), ([4, 8], [4, 8]), ([], []), ([], []), ([10, 11], [10, 11]), ([12], [12]), ([9, 13], [9, 13]), ([14], [14]), ([0, 15], [0, 15]), ([16, 16, 0, 1, 2, 3, 4, 5, 6, 7, 8, 9, 10, 11, 12, 13, 14, 15, 16], [0, 16])])
def spec_l06Indices.B26 : List Nat := [0, 0, 0, 6, 14, 0, 0, 96, 224, 510, 0, 0, 3072, 7168, 16382, 32766, 65535, 131071]
theorem spec_l06Indices.tab26 : rtab .any (opsOf Try.f78 26) = spec_l06Indices.T26 := by kernel_rfl
theorem spec_l06Indices.bits26 : waitsOk spec_l06Indices.T26.2 spec_l06Indices.B26 = true := by kernel_rfl
theorem spec_l06Indices.calls (k : Nat) (A0 : Option Addr) (c0 : Nat) (l0 : List Int) (a1_0 : Int) (A1_1 : Option Addr) (c1_1 : Nat) (l1_1 : List Int) (A1_2 : Option Addr) (c1_2 : Nat) (l1_2 : List Int) (A1_3 : Option Addr) (c1_3 : Nat) (l1_3 : List Int) (A1_4 : Option Addr) (c1_4 : Nat) (l1_4 : List Int) (A1_5 : Option Addr) (c1_5 : Nat) (l1_5 : List (S110)) (r : List Int) (w : World) (C0 : Cm (Kd.int .i64) w A0 c0 l0) (C1_1 : Cm (Kd.int .i64) w A1_1 c1_1 l1_1) (C1_2 : Cm (Kd.int .i64) w A1_2 c1_2 l1_2) (C1_3 : Cm (Kd.int .i64) w A1_3 c1_3 l1_3) (C1_4 : Cm (Kd.int .i64) w A1_4 c1_4 l1_4) (C1_5 : Cm k110 w A1_5 c1_5 l1_5) (h : spec_l06Indices.f k l0 a1_0 l1_1 l1_2 l1_3 l1_4 l1_5 = some r) :
 Calls Try.prog 78 #[.slice A0 l0.length c0, .agg #[.int .i64 a1_0, .slice A1_1 l1_1.length c1_1, .slice A1_2 l1_2.length c1_2, .slice A1_3 l1_3.length c1_3, .slice A1_4 l1_4.length c1_4, .slice A1_5 l1_5.length c1_5]] w fun e w' => ∃ v0_ : Value, e = .returned (v0_) ∧ Kd.R (Kd.int .i64) 2 w' w.heap.size (fun _ => True) v0_ r ∧ Below w.heap.size w w' := by
 have hu55 := Try.underlying55
 have HB := yD (Below.refl w.heap.size w)
 have H : ((some (([] : List Int) : List Int)).bind fun y212 => (if a1_0 = 1 then (spec_l06Indices.l0 k l0 y212 0) else (if a1_0 = 4 then (spec_l06Indices.l1 k l0 y212 0 a1_0 l1_1 l1_2 l1_3 l1_4 l1_5) else (if a1_0 = 3 then (if y212.length < 17592186044416 then (spec_l06Indices.l2 k l0 (y212 ++ [0]) 0 a1_0 l1_1 l1_2 l1_3 l1_4 l1_5) else (none)) else (some y212))))) = some r := h
 clear h
 obtain ⟨y212, hy212⟩ : ∃ y_ : List Int, y_ = (([] : List Int)) := ⟨_, rfl⟩
 replace H : (if a1_0 = 1 then (spec_l06Indices.l0 k l0 y212 0) else (if a1_0 = 4 then (spec_l06Indices.l1 k l0 y212 0 a1_0 l1_1 l1_2 l1_3 l1_4 l1_5) else (if a1_0 = 3 then (if y212.length < 17592186044416 then (spec_l06Indices.l2 k l0 (y212 ++ [0]) 0 a1_0 l1_1 l1_2 l1_3 l1_4 l1_5) else (none)) else (some y212)))) = some r := by first | (rw [hy212]; with_reducible exact H) | (have H2_ := (Option.bind_some _ _).symm.trans H; rw [hy212]; with_reducible exact H2_) | (have H2_ := (Option.bind_some _ _).symm.trans H; with_reducible exact H2_) | with_reducible exact H | (rw [hy212]; exact H) | exact H
 have Ny212 := yD hy212
 clear hy212
 replace H := sQ H; rcases H with ⟨-, c3b0, c3b1, H⟩ | ⟨c3, c3b0, c3b1, H⟩
 ·
  have H' := yD H
  clear H; go_enter Try.func78, Try.ntmps78
  go_wp2_with (first | ((with_reducible refine gate_dst (N := 3) rfl ?_); refine bF (N := 3) (cs := #[.int .i64 a1_0, .slice A1_1 l1_1.length c1_1, .slice A1_2 l1_2.length c1_2, .slice A1_3 l1_3.length c1_3, .slice A1_4 l1_4.length c1_4, .slice A1_5 l1_5.length c1_5]) (t := 55) HB ?_; intro gb211 w4 BK211 GW211 HB) | ((with_reducible refine gate_dst (N := 13) rfl ?_); refine Kd.R_lit (Kd.int .i64) _ 2 ?hg (N := 13) ?hd (xs := ([] : List Int)) (inner := []) (ok := fun _ => True) (okp := fun _ => True) ?hr ?hp (fun _ hk => hk) trivial (Below.refl _ _) (Nat.le_refl _) (by simp) ?_; (case hd => rfl); (case hg => rfl); (case hr => first | (go_simp; done) | (go_simp; rfl)); (case hp => exact (Reps.none _ _)); intro v213 w5 ho6 hb hg_ hnew_; clear hg_ hnew_; (first | rw [← Ny212.out] at ho6 | (simp only [Int.reduceToNat] at ho6; rw [← Ny212.out] at ho6)); have HO214 := yD (yZ ho6 (below_size (kB HB))); replace BK211 := zY BK211 hb; replace HB := zX HB hb; clear hb ho6; have := cf6_ BK211.out))
  (try simp only [Act.put, zH, zI, zJ])
  go_loopg [5, 6] k (fun kq v5 v6 w' => ∃ (x5_1 : List Int) (x6_1 : Int), v6 = .int .i64 x6_1 ∧ Aside0 (spec_l06Indices.l0 kq l0 x5_1 x6_1 = some r) ∧ Aside0 (kq ≤ k) ∧ Aside0 (Kd.R (Kd.int .i64) 2 w' w.heap.size (fun _ => True) v5 x5_1) ∧ Aside0 (w'.heap[gb211]? = some (.cells #[.int .i64 a1_0, (.slice A1_1 l1_1.length c1_1), (.slice A1_2 l1_2.length c1_2), (.slice A1_3 l1_3.length c1_3), (.slice A1_4 l1_4.length c1_4), (.slice A1_5 l1_5.length c1_5)] 55 (0, 0))) ∧ Aside0 (Below w.heap.size w w'))
  case atStart => exact ⟨(y212), (0), kF, H', ⟨Nat.le_refl _⟩, ⟨kA HO214⟩, ⟨kM BK211⟩, ⟨kR0 HB⟩⟩
  case round =>
   clear H'
   obtain ⟨x5_1, x6_1, rfl, HA, HK1, HO_5, BK211, HB⟩ := hrel
   cases gk with
   | zero => exact absurd HA.out (by simp [spec_l06Indices.l0])
   | succ k1 =>
    have H := HA.out; clear HA
    simp only [spec_l06Indices.l0] at H
    replace ⟨t215, A8, H⟩ := sV H
    replace H := sG H; rcases H with ⟨c9b0, H⟩ | ⟨c9b0, H⟩
    · obtain rfl := sJ H
      go_wp2_with (first | ((with_reducible refine gate_callee (f := 91) rfl ?_); refine gL 20 Try.func91 _ (dm (spec_l05Count.calls k1 _ _ l0 t215 _ (C0.b HB) A8.out) fun nd => ?_)))
      go_ret
      exact ⟨_, kE, kA HO_5, kR0 HB⟩
    replace ⟨LMc10, H⟩ := sM H
    generalize hy216 : ((x5_1 ++ [x6_1]) : List Int) = y216 at H
    have Ny216 := yD hy216.symm
    clear hy216
    have H' := yD H
    clear H
    go_wp2_with (first | ((with_reducible refine gate_callee (f := 91) rfl ?_); refine gL 20 Try.func91 _ (dm (spec_l05Count.calls k1 _ _ l0 t215 _ (C0.b HB) A8.out) fun nd => ?_)) | ((with_reducible refine gate_builtin (b := .append) (xs := #[.tmp 24, .tmp 26]) rfl ?_); at_builtin; refine Kd.R_append (Kd.int .i64) (w0 := w) w.heap.size rfl (.tmp 24) (.tmp 26) 36 2 (.int .i64 0) 8 rfl Try.underlying36 info2 rfl (by decide) (by omega) u5 x5_1 x6_1 [.int .i64 x6_1] (fun _ => True) (fun _ => False) rfl rfl ?aP (fun _ hk => hk.elim) ?aF ?aO ?aB ?aS ?aL ?_; (case aP => exact rfl); (case aB => exact (kB HB)); (case aF => exact (fun _ _ => trivial)); (case aO => exact (kA HO_5)); (case aS => exact (below_size (kB HB))); (case aL => have := LMc10.out; omega); intro v217 w11 ho hb hg hat; rw [← Ny216.out] at ho; replace BK211 := yD (blk_grown (g := gb211) (o := .cells #[.int .i64 a1_0, .slice A1_1 l1_1.length c1_1, .slice A1_2 l1_2.length c1_2, .slice A1_3 l1_3.length c1_3, .slice A1_4 l1_4.length c1_4, .slice A1_5 l1_5.length c1_5] 55 (0, 0)) (kM BK211) hg (Kd.R_ne HO_5.out BK211.out (by decide))); replace HB := yD (hb); have HO218 := yD (ho); clear HO_5; clear ho hb hg hat))
    go_roundg k1
    case measure => have := HK1.out; omega
    case rel => exact ⟨(y216), (wrap64 (x6_1 + 1)), kF, H', ⟨by have := HK1.out; omega⟩, ⟨kA HO218⟩, ⟨kM BK211⟩, ⟨kR0 HB⟩⟩
 replace H := sQ H; rcases H with ⟨-, c12b0, c12b1, H⟩ | ⟨c12, c12b0, c12b1, H⟩
 ·
  have H' := yD H
  clear H; go_enter Try.func78, Try.ntmps78
  go_wp2_with (first | ((with_reducible refine gate_dst (N := 3) rfl ?_); refine bF (N := 3) (cs := #[.int .i64 a1_0, .slice A1_1 l1_1.length c1_1, .slice A1_2 l1_2.length c1_2, .slice A1_3 l1_3.length c1_3, .slice A1_4 l1_4.length c1_4, .slice A1_5 l1_5.length c1_5]) (t := 55) HB ?_; intro gb211 w13 BK211 GW211 HB) | ((with_reducible refine gate_dst (N := 13) rfl ?_); refine Kd.R_lit (Kd.int .i64) _ 2 ?hg (N := 13) ?hd (xs := ([] : List Int)) (inner := []) (ok := fun _ => True) (okp := fun _ => True) ?hr ?hp (fun _ hk => hk) trivial (Below.refl _ _) (Nat.le_refl _) (by simp) ?_; (case hd => rfl); (case hg => rfl); (case hr => first | (go_simp; done) | (go_simp; rfl)); (case hp => exact (Reps.none _ _)); intro v213 w14 ho15 hb hg_ hnew_; clear hg_ hnew_; (first | rw [← Ny212.out] at ho15 | (simp only [Int.reduceToNat] at ho15; rw [← Ny212.out] at ho15)); have HO214 := yD (yZ ho15 (below_size (kB HB))); replace BK211 := zY BK211 hb; replace HB := zX HB hb; clear hb ho15; have := cf6_ BK211.out))
  (try simp only [Act.put, zH, zI, zJ])
  go_loopg [5, 7] k (fun kq v5 v7 w' => ∃ (x5_1 : List Int) (x7_1 : Int), v7 = .int .i64 x7_1 ∧ Aside0 (spec_l06Indices.l1 kq l0 x5_1 x7_1 a1_0 l1_1 l1_2 l1_3 l1_4 l1_5 = some r) ∧ Aside0 (kq ≤ k) ∧ Aside0 (Kd.R (Kd.int .i64) 2 w' w.heap.size (fun _ => True) v5 x5_1) ∧ Aside0 (w'.heap[gb211]? = some (.cells #[.int .i64 a1_0, (.slice A1_1 l1_1.length c1_1), (.slice A1_2 l1_2.length c1_2), (.slice A1_3 l1_3.length c1_3), (.slice A1_4 l1_4.length c1_4), (.slice A1_5 l1_5.length c1_5)] 55 (0, 0))) ∧ Aside0 (Below w.heap.size w w'))
  case atStart => exact ⟨(y212), (0), kF, H', ⟨Nat.le_refl _⟩, ⟨kA HO214⟩, ⟨kM BK211⟩, ⟨kR0 HB⟩⟩
  case round =>
   clear H'
   obtain ⟨x5_1, x7_1, rfl, HA, HK1, HO_5, BK211, HB⟩ := hrel
   cases gk with
   | zero => exact absurd HA.out (by simp [spec_l06Indices.l1])
   | succ k1 =>
    have H := HA.out; clear HA
    simp only [spec_l06Indices.l1] at H
    replace H := sG H; rcases H with ⟨c17b0, H⟩ | ⟨c17b0, H⟩
    ·
     obtain rfl := sJ H
     have := cf6_ BK211.out
     go_wp2
     go_ret
     exact ⟨_, kE, kA HO_5, kR0 HB⟩
    replace ⟨c18b0, H⟩ := sE H
    replace ⟨t220, A19, H⟩ := sV H
    replace ⟨LMc20, H⟩ := sM H
    generalize hy221 : ((x5_1 ++ [t220]) : List Int) = y221 at H
    have Ny221 := yD hy221.symm
    clear hy221
    have H' := yD H
    clear H
    have := cf6_ BK211.out
    obtain ⟨p219, q219, ad219, A219_0, c219_0, e219, hx219_0, HC219_0, HR219_0⟩ := sI (at_T110 C1_5.r x7_1)
    cases e219
    replace hx219_0 := kD HB hx219_0
    go_wp2_with (first | ((with_reducible refine gate_callee (f := 96) rfl ?_); refine gL 45 Try.func96 _ (dm (spec_l05Index.calls k1 _ _ l0 _ _ ((rd_T110 l1_5 x7_1).f0) t220 _ (C0.b HB) (cB HR219_0 HC219_0 HB) A19.out) fun nd => ?_)) | ((with_reducible refine gate_builtin (b := .append) (xs := #[.tmp 37, .tmp 46]) rfl ?_); at_builtin; refine Kd.R_append (Kd.int .i64) (w0 := w) w.heap.size rfl (.tmp 37) (.tmp 46) 36 2 (.int .i64 0) 8 rfl Try.underlying36 info2 rfl (by decide) (by omega) u5 x5_1 t220 [.int .i64 t220] (fun _ => True) (fun _ => False) rfl rfl ?aP (fun _ hk => hk.elim) ?aF ?aO ?aB ?aS ?aL ?_; (case aP => exact rfl); (case aB => exact (kB HB)); (case aF => exact (fun _ _ => trivial)); (case aO => exact (kA HO_5)); (case aS => exact (below_size (kB HB))); (case aL => have := LMc20.out; omega); intro v222 w22 ho hb hg hat; rw [← Ny221.out] at ho; replace BK211 := yD (blk_grown (g := gb211) (o := .cells #[.int .i64 a1_0, .slice A1_1 l1_1.length c1_1, .slice A1_2 l1_2.length c1_2, .slice A1_3 l1_3.length c1_3, .slice A1_4 l1_4.length c1_4, .slice (some ad219) l1_5.length c1_5] 55 (0, 0)) (kM BK211) hg (Kd.R_ne HO_5.out BK211.out (by decide))); replace HB := yD (hb); have HO223 := yD (ho); clear HO_5; clear ho hb hg hat))
    go_roundg k1
    case measure => have := HK1.out; omega
    case rel => exact ⟨(y221), (wrap64 (x7_1 + 1)), kF, H', ⟨by have := HK1.out; omega⟩, ⟨kA HO223⟩, ⟨kM BK211⟩, ⟨kR0 HB⟩⟩
 replace H := sP H; rcases H with ⟨c24, c24b0, c24b1, H⟩ | ⟨-, c24b0, c24b1, H⟩
 ·
  obtain rfl := sJ H; go_enter Try.func78, Try.ntmps78
  go_wp2_with (first | ((with_reducible refine gate_dst (N := 3) rfl ?_); refine bF (N := 3) (cs := #[.int .i64 a1_0, .slice A1_1 l1_1.length c1_1, .slice A1_2 l1_2.length c1_2, .slice A1_3 l1_3.length c1_3, .slice A1_4 l1_4.length c1_4, .slice A1_5 l1_5.length c1_5]) (t := 55) HB ?_; intro gb211 w51 BK211 GW211 HB) | ((with_reducible refine gate_dst (N := 13) rfl ?_); refine Kd.R_lit (Kd.int .i64) _ 2 ?hg (N := 13) ?hd (xs := ([] : List Int)) (inner := []) (ok := fun _ => True) (okp := fun _ => True) ?hr ?hp (fun _ hk => hk) trivial (Below.refl _ _) (Nat.le_refl _) (by simp) ?_; (case hd => rfl); (case hg => rfl); (case hr => first | (go_simp; done) | (go_simp; rfl)); (case hp => exact (Reps.none _ _)); intro v213 w52 ho53 hb hg_ hnew_; clear hg_ hnew_; (first | rw [← Ny212.out] at ho53 | (simp only [Int.reduceToNat] at ho53; rw [← Ny212.out] at ho53)); have HO214 := yD (yZ ho53 (below_size (kB HB))); replace BK211 := zY BK211 hb; replace HB := zX HB hb; clear hb ho53; have := cf6_ BK211.out))
  go_ret
  exact ⟨_, kE, kA HO214, kR0 HB⟩
 replace ⟨LMc25, H⟩ := sM H
 generalize hy224 : ((y212 ++ [0]) : List Int) = y224 at H
 have Ny224 := yD hy224.symm
 clear hy224
 have H' := yD H
 clear H; go_enter Try.func78, Try.ntmps78
 go_wp2_with (first | ((with_reducible refine gate_dst (N := 3) rfl ?_); refine bF (N := 3) (cs := #[.int .i64 a1_0, .slice A1_1 l1_1.length c1_1, .slice A1_2 l1_2.length c1_2, .slice A1_3 l1_3.length c1_3, .slice A1_4 l1_4.length c1_4, .slice A1_5 l1_5.length c1_5]) (t := 55) HB ?_; intro gb211 w26 BK211 GW211 HB) | ((with_reducible refine gate_dst (N := 13) rfl ?_); refine Kd.R_lit (Kd.int .i64) _ 2 ?hg (N := 13) ?hd (xs := ([] : List Int)) (inner := []) (ok := fun _ => True) (okp := fun _ => True) ?hr ?hp (fun _ hk => hk) trivial (Below.refl _ _) (Nat.le_refl _) (by simp) ?_; (case hd => rfl); (case hg => rfl); (case hr => first | (go_simp; done) | (go_simp; rfl)); (case hp => exact (Reps.none _ _)); intro v213 w27 ho28 hb hg_ hnew_; clear hg_ hnew_; (first | rw [← Ny212.out] at ho28 | (simp only [Int.reduceToNat] at ho28; rw [← Ny212.out] at ho28)); have HO214 := yD (yZ ho28 (below_size (kB HB))); replace BK211 := zY BK211 hb; replace HB := zX HB hb; clear hb ho28; have := cf6_ BK211.out) | ((with_reducible refine gate_builtin (b := .append) (xs := #[.tmp 50, .tmp 51]) rfl ?_); at_builtin; refine Kd.R_append (Kd.int .i64) (w0 := w) w.heap.size rfl (.tmp 50) (.tmp 51) 36 2 (.int .i64 0) 8 rfl Try.underlying36 info2 rfl (by decide) (by omega) v213 y212 0 [.int .i64 0] (fun _ => True) (fun _ => False) rfl rfl ?aP (fun _ hk => hk.elim) ?aF ?aO ?aB ?aS ?aL ?_; (case aP => exact rfl); (case aB => exact (kB HB)); (case aF => exact (fun _ _ => trivial)); (case aO => exact (kA HO214)); (case aS => exact (below_size (kB HB))); (case aL => have := LMc25.out; omega); intro v225 w30 ho hb hg hat; rw [← Ny224.out] at ho; replace BK211 := yD (blk_grown (g := gb211) (o := .cells #[.int .i64 a1_0, .slice A1_1 l1_1.length c1_1, .slice A1_2 l1_2.length c1_2, .slice A1_3 l1_3.length c1_3, .slice A1_4 l1_4.length c1_4, .slice A1_5 l1_5.length c1_5] 55 (0, 0)) (kM BK211) hg (Kd.R_ne HO214.out BK211.out (by decide))); replace HB := yD (hb); have HO226 := yD (ho); clear HO214; clear ho hb hg hat))
 (try simp only [Act.put, zH, zI, zJ])
 go_loopg [5, 8] k (fun kq v5 v8 w' => ∃ (x5_1 : List Int) (x8_1 : Int), v8 = .int .i64 x8_1 ∧ Aside0 (spec_l06Indices.l2 kq l0 x5_1 x8_1 a1_0 l1_1 l1_2 l1_3 l1_4 l1_5 = some r) ∧ Aside0 (kq ≤ k) ∧ Aside0 (Kd.R (Kd.int .i64) 2 w' w.heap.size (fun _ => True) v5 x5_1) ∧ Aside0 (w'.heap[gb211]? = some (.cells #[.int .i64 a1_0, (.slice A1_1 l1_1.length c1_1), (.slice A1_2 l1_2.length c1_2), (.slice A1_3 l1_3.length c1_3), (.slice A1_4 l1_4.length c1_4), (.slice A1_5 l1_5.length c1_5)] 55 (0, 0))) ∧ Aside0 (Below w.heap.size w w'))
 case atStart => exact ⟨(y224), (0), kF, H', ⟨Nat.le_refl _⟩, ⟨kA HO226⟩, ⟨kM BK211⟩, ⟨kR0 HB⟩⟩
 case round =>
  clear H'
  obtain ⟨x5_1, x8_1, rfl, HA, HK1, HO_5, BK211, HB⟩ := hrel
  cases gk with
  | zero => exact absurd HA.out (by simp [spec_l06Indices.l2])
  | succ k1 =>
   have H := HA.out; clear HA
   simp only [spec_l06Indices.l2] at H
   replace H := sG H; rcases H with ⟨c31b0, H⟩ | ⟨c31b0, H⟩
   · obtain rfl := sJ H
     go_wp2
     go_ret
     exact ⟨_, kE, kA HO_5, kR0 HB⟩
   replace ⟨t227, A32, H⟩ := sV H
   obtain ⟨y230, hy230⟩ : ∃ y_ : List Int, y_ = (([] : List Int)) := ⟨_, rfl⟩
   replace H : (spec_l06Indices.l3 k1 l0 x5_1 x8_1 t227 y230 0 a1_0 l1_1 l1_2 l1_3 l1_4 l1_5) = some r := by first | (rw [hy230]; with_reducible exact H) | (have H2_ := (Option.bind_some _ _).symm.trans H; rw [hy230]; with_reducible exact H2_) | (have H2_ := (Option.bind_some _ _).symm.trans H; with_reducible exact H2_) | with_reducible exact H | (rw [hy230]; exact H) | exact H
   have Ny230 := yD hy230
   clear hy230
   have H' := yD H
   clear H
   have := cf6_ BK211.out
   go_wp2_with (first | ((with_reducible refine gate_callee (f := 112) rfl ?_); refine gL 61 Try.func112 _ ((spec_l06Axis.calls k1 a1_0 _ _ l1_1 _ _ l1_2 _ _ l1_3 _ _ l1_4 _ _ l1_5 x8_1 t227 _ (C1_1.b HB) (C1_2.b HB) (C1_3.b HB) (C1_4.b HB) (C1_5.b HB) A32.out).mono ?_); rintro e w34 ⟨v228, rfl, ho0, hb⟩; refine ⟨_, rfl, ?_⟩; have HO229 := yD (yZ (yJ ho0 (yK (kA HO_5))) (below_size (kB HB))); replace HO_5 := yD (Kd.R_elder' (kA HO_5) (yH ho0) hb); replace BK211 := zY BK211 hb; replace HB := zX HB hb; clear hb ho0) | ((with_reducible refine gate_dst (N := 62) rfl ?_); refine Kd.R_lit (Kd.int .i64) _ 2 ?hg (N := 62) ?hd (xs := ([] : List Int)) (inner := []) (ok := fun _ => True) (okp := fun _ => True) ?hr ?hp (fun _ hk => hk) trivial (Below.refl _ _) (Nat.le_refl _) (by simp) ?_; (case hd => rfl); (case hg => rfl); (case hr => first | (go_simp; done) | (go_simp; rfl)); (case hp => exact (Reps.none _ _)); intro v231 w35 ho36 hb hg_ hnew_; clear hg_ hnew_; (first | rw [← Ny230.out] at ho36 | (simp only [Int.reduceToNat] at ho36; rw [← Ny230.out] at ho36)); have HO232 := yD (yZ (yJ (yJ ho36 (yK (kA HO_5))) (yK (kA HO229))) (below_size (kB HB))); replace HO_5 := yD (Kd.R_elder' (kA HO_5) (yH ho36) hb); replace HO229 := yD (Kd.R_elder' (kA HO229) (yH ho36) hb); replace BK211 := zY BK211 hb; replace HB := zX HB hb; clear hb ho36))
   (try simp only [Act.put, zH, zI, zJ])
   go_loopg [10, 11] k1 (fun kq v10 v11 w' => ∃ (x10_2 : List Int) (x11_2 : Int), v11 = .int .i64 x11_2 ∧ Aside0 (spec_l06Indices.l3 kq l0 x5_1 x8_1 t227 x10_2 x11_2 a1_0 l1_1 l1_2 l1_3 l1_4 l1_5 = some r) ∧ Aside0 (kq ≤ k1) ∧ Aside0 (Kd.R (Kd.int .i64) 2 w' w.heap.size (fun k_ => oB v228 k_ ∧ oB v10 k_) u5 x5_1) ∧ Aside0 (Kd.R (Kd.int .i64) 2 w' w.heap.size (fun k_ => oB u5 k_ ∧ oB v10 k_) v228 t227) ∧ Aside0 (Kd.R (Kd.int .i64) 2 w' w.heap.size (fun k_ => oB u5 k_ ∧ oB v228 k_) v10 x10_2) ∧ Aside0 (w'.heap[gb211]? = some (.cells #[.int .i64 a1_0, (.slice A1_1 l1_1.length c1_1), (.slice A1_2 l1_2.length c1_2), (.slice A1_3 l1_3.length c1_3), (.slice A1_4 l1_4.length c1_4), (.slice A1_5 l1_5.length c1_5)] 55 (0, 0))) ∧ Aside0 (Below w.heap.size w w'))
   case atStart => exact ⟨(y230), (0), kF, H', ⟨Nat.le_refl _⟩, ⟨mR HO_5 (fun _ hk => ⟨hk.1.2, hk.2⟩)⟩, ⟨mR HO229 (fun _ hk => ⟨hk.1.2, hk.2⟩)⟩, ⟨mR HO232 (fun _ hk => ⟨hk.1.2, hk.2⟩)⟩, ⟨kM BK211⟩, ⟨kR0 HB⟩⟩
   case round =>
    clear H'
    obtain ⟨x10_2, x11_2, rfl, HA, HK2, HO_5, HO_9, HO_10, BK211, HB⟩ := hrel
    cases gk with
    | zero => exact absurd HA.out (by simp [spec_l06Indices.l3])
    | succ k2 =>
     have H := HA.out; clear HA
     simp only [spec_l06Indices.l3] at H
     replace H := sG H; rcases H with ⟨c37b0, H⟩ | ⟨c37b0, H⟩
     ·
      have H' := yD H
      clear H
      obtain ⟨Ao50, co50, eo50⟩ := Kd.R_slice HO_5.out
      subst eo50
      go_wp2
      go_roundg k2
      case measure => have := HK1.out; have := HK2.out; omega
      case rel => exact ⟨(x10_2), (wrap64 (x8_1 + 1)), kF, H', ⟨by have := HK1.out; have := HK2.out; omega⟩, ⟨mR HO_10 (fun _ hk => trivial)⟩, ⟨kM BK211⟩, ⟨kR0 HB⟩⟩
     have H' := yD H
     clear H
     obtain ⟨Ao38, co38, eo38⟩ := Kd.R_slice HO_5.out
     subst eo38
     go_wp2
     go_loopg [10, 12] k2 (fun kq v10 v12 w' => ∃ (x10_3 : List Int) (x12_3 : Int), v12 = .int .i64 x12_3 ∧ Aside0 (spec_l06Indices.l4 kq l0 x5_1 x8_1 t227 x10_3 x11_2 x12_3 a1_0 l1_1 l1_2 l1_3 l1_4 l1_5 = some r) ∧ Aside0 (kq ≤ k2) ∧ Aside0 (Kd.R (Kd.int .i64) 2 w' w.heap.size (fun k_ => oB v228 k_ ∧ oB v10 k_) (.slice Ao38 x5_1.length co38) x5_1) ∧ Aside0 (Kd.R (Kd.int .i64) 2 w' w.heap.size (fun k_ => oB (.slice Ao38 x5_1.length co38) k_ ∧ oB v10 k_) v228 t227) ∧ Aside0 (Kd.R (Kd.int .i64) 2 w' w.heap.size (fun k_ => oB (.slice Ao38 x5_1.length co38) k_ ∧ oB v228 k_) v10 x10_3) ∧ Aside0 (w'.heap[gb211]? = some (.cells #[.int .i64 a1_0, (.slice A1_1 l1_1.length c1_1), (.slice A1_2 l1_2.length c1_2), (.slice A1_3 l1_3.length c1_3), (.slice A1_4 l1_4.length c1_4), (.slice A1_5 l1_5.length c1_5)] 55 (0, 0))) ∧ Aside0 (Below w.heap.size w w'))
     case atStart => exact ⟨(x10_2), (0), kF, H', ⟨Nat.le_refl _⟩, ⟨kA HO_5⟩, ⟨kA HO_9⟩, ⟨kA HO_10⟩, ⟨kM BK211⟩, ⟨kR0 HB⟩⟩
     case round =>
      clear H'
      obtain ⟨x10_3, x12_3, rfl, HA, HK3, HO_5, HO_9, HO_10, BK211, HB⟩ := hrel
      cases gk with
      | zero => exact absurd HA.out (by simp [spec_l06Indices.l4])
      | succ k3 =>
       have H := HA.out; clear HA
       simp only [spec_l06Indices.l4] at H
       replace H := sG H; rcases H with ⟨c39b0, H⟩ | ⟨c39b0, H⟩
       ·
        have H' := yD H
        clear H
        obtain ⟨Ao49, co49, eo49⟩ := Kd.R_slice HO_9.out
        subst eo49
        go_wp2
        go_roundg k3
        case measure => have := HK1.out; have := HK2.out; have := HK3.out; omega
        case rel => exact ⟨(x10_3), (wrap64 (x11_2 + 1)), kF, H', ⟨by have := HK1.out; have := HK2.out; have := HK3.out; omega⟩, ⟨kA HO_5⟩, ⟨kA HO_9⟩, ⟨kA HO_10⟩, ⟨kM BK211⟩, ⟨kR0 HB⟩⟩
       replace ⟨c40b0, H⟩ := sE H
       replace ⟨c41b0, H⟩ := sE H
       replace ⟨c42b0, H⟩ := sE H
       replace ⟨c43b0, H⟩ := sE H
       replace ⟨c44b0, H⟩ := sE H
       replace ⟨LMc45, H⟩ := sM H
       generalize hy236 : ((x10_3 ++ [wrap64 ((wrap64 ((rd x5_1 x11_2) * (rd l0 x8_1))) + (rd t227 x12_3))]) : List Int) = y236 at H
       have Ny236 := yD hy236.symm
       clear hy236
       have H' := yD H
       clear H
       obtain ⟨Ao46, co46, eo46⟩ := Kd.R_slice HO_9.out
       subst eo46
       try go_wp2
       replace HO_5 := yD (yC HO_5.out); replace HO_9 := yD (yC HO_9.out); replace HO_10 := yD (yC HO_10.out); replace BK211 := yD (yO BK211.out); replace HB := yD (yP HB.out)
       obtain ⟨p233, q233, ad233, e233, hx233_0⟩ := sI (Kd.at_int (zA HO_5.out).2.2 x11_2)
       cases e233
       obtain ⟨p234, q234, ad234, e234, hx234_0⟩ := sI (Kd.at_int C0.r x8_1)
       have hw234_0 := hx234_0; cases e234
       replace hx234_0 := kD HB hx234_0
       obtain ⟨p235, q235, ad235, e235, hx235_0⟩ := sI (Kd.at_int (zA HO_9.out).2.2 x12_3)
       cases e235
       refine start_ (n := 18) (S := fun w' => w'.cell? (ad233.add (x11_2).toNat) = some (.int .i64 (rd x5_1 x11_2)) ∧ w'.cell? (ad234.add (x8_1).toNat) = some (.int .i64 (rd l0 x8_1)) ∧ w'.cell? (ad235.add (x12_3).toNat) = some (.int .i64 (rd t227 x12_3))) (ds := [15, 16]) (bz 18 0) (by kernel_rfl) rfl rfl ⟨hx233_0, (kC HB hw234_0), hx235_0⟩ (fun hHeld => ?_); refine with_tabW spec_l06Indices.tab26 spec_l06Indices.bits26 (fun HT_ HW_ => ?_)
       generalize wr.drew = w47 at HO_5 HO_9 HO_10 BK211 HB hx233_0 hx234_0 hx235_0 hHeld ⊢
       refine qa 18 0 1 ?_; refine qa 18 1 3 ?_; refine qa 18 2 7 ?_; refine qa 18 3 15 ?_; refine qa 18 5 47 ?_; refine qa 18 6 111 ?_; refine qa 18 7 239 ?_; refine qa 18 10 1263 ?_; refine qa 18 11 3311 ?_; refine qa 18 12 7407 ?_; refine qc 18 4 7423 hHeld ?_; refine qc 18 8 7679 hHeld ?_; refine qa 18 9 8191 ?_; refine qc 18 13 16383 hHeld ?_; refine qa 18 14 32767 ?_
       refine last_ (i := 15) (N := some 90) #[true, true, true, true, true, true, true, true, true, true, true, true, true, true, true, true, false, false] rfl rfl (one_of HT_.out (by kernel_rfl)) (by decide) (fun K hK => ?_)
       refine value_ (w1 := ?_) (v := ?_) (by rfl) rfl ?_ ?_
       rotate_left 2
       · go_simp
         constructor
         · rfl
         · rfl
       refine hK.out _ _ ?_
       clear hK K
       refine nZ 90 ?_
       refine last_ (i := 16) (N := some 91) #[true, true, true, true, true, true, true, true, true, true, true, true, true, true, true, true, true, false] rfl rfl (one_of HT_.out (by kernel_rfl)) (by decide) (fun K hK => ?_)
       refine Kd.R_append_step (Kd.int .i64) (w0 := w) w.heap.size (by rfl) (.tmp 75) (.tmp 90) 36 2 (.int .i64 0) 8 rfl Try.underlying36 info2 rfl (by decide) (by omega) u10 x10_3 (wrap64 ((wrap64 ((rd x5_1 x11_2) * (rd l0 x8_1))) + (rd t227 x12_3))) [.int .i64 (wrap64 ((wrap64 ((rd x5_1 x11_2) * (rd l0 x8_1))) + (rd t227 x12_3)))] (fun k_ => oB (.slice (some ad233) x5_1.length co38) k_ ∧ oB (.slice (some ad235) t227.length co46) k_) (fun _ => False) rfl rfl ?aP (fun _ hk => hk.elim) ?aF ?aO ?aB ?aS ?aL ?_
       (case aP => exact rfl)
       (case aB => exact (kB HB))
       (case aF => exact (fun k_ hk => ⟨Kd.fresh' (yK (kA HO_5)) k_ hk, Kd.fresh' (yK (kA HO_9)) k_ hk⟩))
       (case aO => exact (kA HO_10))
       (case aS => exact (below_size (kB HB)))
       (case aL => have := LMc45.out; omega)
       intro v237 w48 ho hb hg hat
       rw [← Ny236.out] at ho
       have n0_ := yD (Kd.R_after (ok := (fun k_ => oB (.slice (some ad235) t227.length co46) k_)) (kA HO_5) hg hat)
       have n1_ := yD (Kd.R_after (ok := (fun k_ => oB (.slice (some ad233) x5_1.length co38) k_)) (kA HO_9) hg hat)
       have n2_ := yD (blk_grown (g := gb211) (o := .cells #[.int .i64 a1_0, .slice A1_1 l1_1.length c1_1, .slice A1_2 l1_2.length c1_2, .slice A1_3 l1_3.length c1_3, .slice A1_4 l1_4.length c1_4, .slice A1_5 l1_5.length c1_5] 55 (0, 0)) (kM BK211) hg (Kd.R_ne HO_10.out BK211.out (by decide)))
       have n3_ := yD (hb)
       have n4_ := yD (ho)
       clear HO_5 HO_9 BK211 HB HO_10; have HO_5 := n0_; have HO_9 := n1_; have BK211 := n2_; have HB := n3_; have HO238 := n4_; clear n0_ n1_ n2_ n3_ n4_ ho hb hg hat
       refine hK.out _ _ ?_
       clear hK K
       refine nZ 91 ?_
       refine qa 18 17 262143 ?_
       refine qd ?_
       try go_wp2
       go_roundg k3
       case measure => have := HK1.out; have := HK2.out; have := HK3.out; omega
       case rel => exact ⟨(y236), (wrap64 (x12_3 + 1)), kF, H', ⟨by have := HK1.out; have := HK2.out; have := HK3.out; omega⟩, ⟨kA HO_5⟩, ⟨kA HO_9⟩, ⟨kA HO238⟩, ⟨kM BK211⟩, ⟨kR0 HB⟩⟩

/-! ### spec_l05Coords: function 93 -/
def spec_l05Coords.l0 : Nat → List Int → Int → List Int → Int → Option (List Int)
 | 0, _, _, _, _ => none
 | k + 1, x0, x1, x5, x6 => if x6 ≥ 0 then (if 0 ≤ x6 then (if x6 < (x0.length : Int) then (if (rd x0 x6) = 0 then (none) else (if x6 < (x5.length : Int) then (spec_l05Coords.l0 k x0 (wrap64 (Int.tdiv x1 (rd x0 x6))) (x5.set (x6 : Int).toNat (Int.tmod x1 (rd x0 x6))) (wrap64 (x6 - 1))) else (none))) else (none)) else (none)) else (some x5)
def spec_l05Coords.f (k : Nat) (l0 : List Int) (a1 : Int) : Option (List Int) := if 0 ≤ (l0.length : Int) then (if ((l0.length : Int) : Int).toNat ≤ 35184372088832 then (spec_l05Coords.l0 k l0 a1 (List.replicate ((l0.length : Int) : Int).toNat 0) (wrap64 ((l0.length : Int) - 1))) else (none)) else (none)
theorem spec_l05Coords.calls (k : Nat) (A0 : Option Addr) (c0 : Nat) (l0 : List Int) (a1 : Int) (r : List Int) (w : World) (C0 : Cm (Kd.int .i64) w A0 c0 l0) (h : spec_l05Coords.f k l0 a1 = some r) :
 Calls Try.prog 93 #[.slice A0 l0.length c0, .int .i64 a1] w fun e w' => ∃ v0_ : Value, e = .returned (v0_) ∧ Kd.R (Kd.int .i64) 2 w' w.heap.size (fun _ => True) v0_ r ∧ Below w.heap.size w w' := by
 have HB := yD (Below.refl w.heap.size w)
 have H : (if 0 ≤ (l0.length : Int) then (if ((l0.length : Int) : Int).toNat ≤ 35184372088832 then (spec_l05Coords.l0 k l0 a1 (List.replicate ((l0.length : Int) : Int).toNat 0) (wrap64 ((l0.length : Int) - 1))) else (none)) else (none)) = some r := h
 clear h
 replace ⟨c3, H⟩ := sD H
 have c3b0 := eq_true c3
 have c3b1 : decide (0 ≤ (l0.length : Int)) = true := zR c3; clear c3
 replace ⟨c4, H⟩ := sD H
 have c4b0 := eq_true c4
 have c4b1 : decide (((l0.length : Int) : Int).toNat ≤ 35184372088832) = true := zR c4
 clear c4
 generalize hy239 : ((List.replicate ((l0.length : Int) : Int).toNat 0) : List Int) = y239 at H
 have Ny239 := yD hy239.symm
 clear hy239
 have H' := yD H
 clear H; go_enter Try.func93, Try.ntmps93
 go_wp2_with (first | ((with_reducible refine gate_dst (N := 9) rfl ?_); refine Kd.R_make (Kd.int .i64) _ 2 rfl (N := 9) rfl 36 _ _ rfl (l0.length : Int) rfl rfl Try.underlying36 (.int .i64 0) 8 info2 rfl (by decide) (by omega) 0 (ok := fun _ => True) (okp := fun _ => True) rfl (fun _ hk => hk) trivial (zP (by assumption)) (Nat.le_trans (Nat.mul_le_mul_right _ (zP (by assumption) : (l0.length : Int).toNat ≤ 35184372088832)) (by omega)) (Below.refl _ _) (Nat.le_refl _) ?_; intro v240 w5 ho6 hb hg_ hnew_; clear hg_ hnew_; (first | rw [← Ny239.out] at ho6 | (simp only [Int.reduceToNat] at ho6; rw [← Ny239.out] at ho6)); have HO241 := yD (yZ ho6 (below_size (kB HB))); replace HB := zX HB hb; clear hb ho6))
 (try simp only [Act.put, zH, zI, zJ])
 go_loopg [1, 6] k (fun kq v1 v6 w' => ∃ (x1_1 : Int) (x5_1 : List Int) (x6_1 : Int), v1 = .int .i64 x1_1 ∧ v6 = .int .i64 x6_1 ∧ Aside0 (spec_l05Coords.l0 kq l0 x1_1 x5_1 x6_1 = some r) ∧ Aside0 (kq ≤ k) ∧ Aside0 (Kd.R (Kd.int .i64) 2 w' w.heap.size (fun _ => True) v240 x5_1) ∧ Aside0 (Below w.heap.size w w'))
 case atStart => exact ⟨(a1), (y239), (wrap64 ((l0.length : Int) - 1)), kF, kF, H', ⟨Nat.le_refl _⟩, ⟨kA HO241⟩, ⟨kR1 HB⟩⟩
 case round =>
  clear H'
  obtain ⟨x1_1, x5_1, x6_1, rfl, rfl, HA, HK1, HO_5, HB⟩ := hrel
  cases gk with
  | zero => exact absurd HA.out (by simp [spec_l05Coords.l0])
  | succ k1 =>
   have H := HA.out; clear HA
   simp only [spec_l05Coords.l0] at H
   replace H := sC H; rcases H with ⟨c7, H⟩ | ⟨c7, H⟩
   · have c7b0 : decide (0 ≤ x6_1) = false := zS c7; clear c7; obtain rfl := sJ H
     go_wp2
     go_ret
     exact ⟨_, kE, kA HO_5, kR1 HB⟩
   have c7b0 : decide (0 ≤ x6_1) = true := zR c7; clear c7
   replace ⟨c8b0, H⟩ := sE H
   replace ⟨c9b0, H⟩ := sE H
   by_cases c10 : (rd l0 x6_1) = 0
   · rw [if_pos c10] at H
     exact absurd H (by simp)
   ·
    rw [if_neg c10] at H
    have c10b0 : ((rd l0 x6_1) == 0) = false := beq_eq_false_iff_ne.mpr c10
    have c10b1 : ((rd l0 x6_1) != 0) = true := bne_iff_ne.mpr c10
    replace ⟨c11b0, H⟩ := sE H
    generalize hy243 : ((x5_1.set (x6_1 : Int).toNat (Int.tmod x1_1 (rd l0 x6_1))) : List Int) = y243 at H
    have Ny243 := yD hy243.symm
    clear hy243
    have H' := yD H
    clear H
    obtain ⟨p242, q242, ad242, e242, hx242_0⟩ := sI (Kd.at_int C0.r x6_1)
    cases e242
    replace hx242_0 := kD HB hx242_0
    have p12 : 0 ≤ (x6_1 : Int) := zP (by assumption)
    have q12 : (x6_1 : Int) < ((x5_1.length : Int) : Int) := zP (by assumption)
    obtain ⟨go12, co12, eo12, gb12, gl12, cl12, HG12⟩ := Kd.R_form HO_5.out (by omega)
    (first | cases eo12 | (injection eo12 with ea_ en_ ec_; (first | subst ea_ | (injection ea_ with ea_; subst ea_)); subst ec_; clear en_))
    have GB12 := yD gb12
    have GG12 := yD HG12
    clear gb12 gl12 HG12
    obtain ⟨hx12_0, hf12_0⟩ := Kd.R_celln 0 HO_5.out (x6_1 : Int) p12 q12
    replace p12 := eq_true p12; replace q12 := eq_true q12
    have HP13 := Kd.R_putg HO_5.out (x6_1 : Int) (Int.tmod x1_1 (rd l0 x6_1))
    go_wp2_with (first | ((with_reducible refine gate_store (t := 2) (p := 25) rfl ?_); refine store_event (t := 2) (p := 25) (v := ?vo_w14) (w1 := (wr.setCell ⟨go12, (x6_1 : Int).toNat, none⟩ (.int .i64 (Int.tmod x1_1 (rd l0 x6_1))))) ?hg ?ho ?hn ?hr ?_; (case ho => rfl); (case hg => rfl); (case hn => rfl); (case hr => first | (go_simp; done) | (go_simp; rfl)); intro w14 hw; have hg : wr.grownBy w14 (some go12) := (by rw [hw]; exact HP13.2); have hp_ : Kd.R (Kd.int .i64) 2 w14 w.heap.size (fun _ => True) (.slice (some ⟨go12, 0, none⟩) x5_1.length co12) y243 := (by rw [hw, Ny243.out]; exact HP13.1); clear HP13; replace HO_5 := yD (hp_); replace HB := yD ((by rw [hw]; exact yE (HB.out) GB12.out : Below w.heap.size w w14)); clear hg hw hp_; have p244 : 0 ≤ (x6_1 : Int) := zP (by assumption); have q244 : x6_1 < (l0.length : Int) := zP (by assumption); obtain ⟨ad244, e244, hx244_0⟩ := Kd.at_int C0.r x6_1 p244 q244; obtain rfl : ad242 = ad244 := (by injection e244); replace hx244_0 := kD HB hx244_0; replace p244 := eq_true p244; replace q244 := eq_true q244))
    go_roundg k1
    case measure => have := HK1.out; omega
    case rel => exact ⟨(wrap64 (Int.tdiv x1_1 (rd l0 x6_1))), (y243), (wrap64 (x6_1 - 1)), kF, kF, H', ⟨by have := HK1.out; omega⟩, ⟨kA HO_5⟩, ⟨kR1 HB⟩⟩
/-! ### spec_l07Each: function 121 -/
mutual
def spec_l07Each.l0 : Nat → List Int → List Int → List (S42) → Int → Option ((List (S42)))
 | 0, _, _, _, _ => none
 | k + 1, x0, x1, x5, x6 => if x6 < (x1.length : Int) then (if 0 ≤ x6 then ((spec_l05Coords.f k x0 (rd x1 x6)).bind fun t249 => ((spec_l00Own.f t249).bind fun t252 => (spec_l07Each.l1 k x0 x1 x5 x6 t249 t252 0))) else (none)) else (some x5)
def spec_l07Each.l1 : Nat → List Int → List Int → List (S42) → Int → List Int → List Int → Int → Option ((List (S42)))
 | 0, _, _, _, _, _, _, _ => none
 | k + 1, x0, x1, x5, x6, x7, x8, x9 => if x9 < (x8.length : Int) then (if 0 ≤ x9 then (spec_l07Each.l1 k x0 x1 x5 x6 x7 (x8.set (x9 : Int).toNat (wrap64 ((rd x8 x9) + 1))) (wrap64 (x9 + 1))) else (none)) else (if x5.length < 2932031007402 then (spec_l07Each.l0 k x0 x1 (x5 ++ [(⟨x7, x8⟩ : S42)]) (wrap64 (x6 + 1))) else (none))
end
def spec_l07Each.f (k : Nat) (l0 : List Int) (l1 : List Int) : Option ((List (S42))) := spec_l07Each.l0 k l0 l1 (([] : List (S42))) 0
theorem spec_l07Each.calls (k : Nat) (A0 : Option Addr) (c0 : Nat) (l0 : List Int) (A1 : Option Addr) (c1 : Nat) (l1 : List Int) (r : List (S42)) (w : World) (C0 : Cm (Kd.int .i64) w A0 c0 l0) (C1 : Cm (Kd.int .i64) w A1 c1 l1) (h : spec_l07Each.f k l0 l1 = some r) :
 Calls Try.prog 121 #[.slice A0 l0.length c0, .slice A1 l1.length c1] w fun e w' => ∃ v0_ : Value, e = .returned (v0_) ∧ Kd.S k42 42 w' w.heap.size (fun _ => True) v0_ r ∧ Below w.heap.size w w' := by
 have hu42 := Try.underlying42
 have HB := yD (Below.refl w.heap.size w)
 have H : (spec_l07Each.l0 k l0 l1 (([] : List (S42))) 0) = some r := h
 clear h
 obtain ⟨y245, hy245⟩ : ∃ y_ : List (S42), y_ = (([] : List (S42))) := ⟨_, rfl⟩
 replace H : (spec_l07Each.l0 k l0 l1 y245 0) = some r := by first | (rw [hy245]; with_reducible exact H) | (have H2_ := (Option.bind_some _ _).symm.trans H; rw [hy245]; with_reducible exact H2_) | (have H2_ := (Option.bind_some _ _).symm.trans H; with_reducible exact H2_) | with_reducible exact H | (rw [hy245]; exact H) | exact H
 have Ny245 := yD hy245
 clear hy245
 have H' := yD H
 clear H; go_enter Try.func121, Try.ntmps121
 go_wp2_with (first | ((with_reducible refine gate_dst (N := 10) rfl ?_); refine Kd.S_lit k42 _ 42 ?hg (N := 10) ?hd (xs := ([] : List (S42))) (inner := []) (ok := fun _ => True) (okp := fun _ => True) ?hr ?hp (fun _ hk => hk) trivial (Below.refl _ _) (Nat.le_refl _) (by simp) ?_; (case hd => rfl); (case hg => rfl); (case hr => first | (go_simp; done) | (go_simp; rfl)); (case hp => exact (Reps.none _ _)); intro v246 w3 ho4 hb hg_ hnew_; clear hg_ hnew_; (first | rw [← Ny245.out] at ho4 | (simp only [Int.reduceToNat] at ho4; rw [← Ny245.out] at ho4)); have HO247 := yD (zG ho4 (below_size (kB HB))); replace HB := zX HB hb; clear hb ho4))
 (try simp only [Act.put, zH, zI, zJ])
 go_loopg [5, 6] k (fun kq v5 v6 w' => ∃ (x5_1 : List (S42)) (x6_1 : Int), v6 = .int .i64 x6_1 ∧ Aside0 (spec_l07Each.l0 kq l0 l1 x5_1 x6_1 = some r) ∧ Aside0 (kq ≤ k) ∧ Aside0 (Kd.S k42 42 w' w.heap.size (fun _ => True) v5 x5_1) ∧ Aside0 (Below w.heap.size w w'))
 case atStart => exact ⟨(y245), (0), kF, H', ⟨Nat.le_refl _⟩, ⟨kS HO247⟩, ⟨kR1 HB⟩⟩
 case round =>
  clear H'
  obtain ⟨x5_1, x6_1, rfl, HA, HK1, HO_5, HB⟩ := hrel
  cases gk with
  | zero => exact absurd HA.out (by simp [spec_l07Each.l0])
  | succ k1 =>
   have H := HA.out; clear HA
   simp only [spec_l07Each.l0] at H
   replace H := sG H; rcases H with ⟨c5b0, H⟩ | ⟨c5b0, H⟩
   · obtain rfl := sJ H
     go_wp2
     go_ret
     exact ⟨_, kE, kS HO_5, kR1 HB⟩
   replace ⟨c6b0, H⟩ := sE H
   replace ⟨t249, A7, H⟩ := sV H
   replace ⟨t252, A8, H⟩ := sV H
   have H' := yD H
   clear H
   obtain ⟨p248, q248, ad248, e248, hx248_0⟩ := sI (Kd.at_int C1.r x6_1)
   cases e248
   replace hx248_0 := kD HB hx248_0
   go_wp2_with (first | ((with_reducible refine gate_callee (f := 93) rfl ?_); refine gL 22 Try.func93 _ ((spec_l05Coords.calls k1 _ _ l0 (rd l1 x6_1) t249 _ (C0.b HB) A7.out).mono ?_); rintro e w9 ⟨v250, rfl, ho0, hb⟩; refine ⟨_, rfl, ?_⟩; replace HO_5 := yD (Kd.S_elder' (kS HO_5) (yH ho0) hb); have HO251 := yD (yZ ho0 (below_size (kB HB))); replace HB := zX HB hb; clear hb ho0; obtain ⟨Ao10, co10, eo10⟩ := Kd.R_slice HO251.out; subst eo10) | ((with_reducible refine gate_callee (f := 71) rfl ?_); refine gL 24 Try.func71 _ ((spec_l00Own.calls _ _ t249 t252 _ ?z1 A8.out).mono ?_); (case z1 => exact ⟨kV (zA HO251.out).2.2, (zA HO251.out).2.1⟩); rintro e w11 ⟨v253, rfl, ho0, hb⟩; refine ⟨_, rfl, ?_⟩; replace HO_5 := yD (Kd.S_elder' (kS HO_5) (yH ho0) hb); have HO254 := yD (yZ (yJ ho0 (yK (kA HO251))) (below_size (kB HB))); replace HO251 := yD (Kd.R_elder' (kA HO251) (yH ho0) hb); replace HB := zX HB hb; clear hb ho0))
   (try simp only [Act.put, zH, zI, zJ])
   go_loopg [9] k1 (fun kq v9 w' => ∃ (x8_2 : List Int) (x9_2 : Int), v9 = .int .i64 x9_2 ∧ Aside0 (spec_l07Each.l1 kq l0 l1 x5_1 x6_1 t249 x8_2 x9_2 = some r) ∧ Aside0 (kq ≤ k1) ∧ Aside0 (Kd.S k42 42 w' w.heap.size (fun k_ => oB (.slice Ao10 t249.length co10) k_ ∧ oB v253 k_) u5 x5_1) ∧ Aside0 (Kd.R (Kd.int .i64) 2 w' w.heap.size (fun k_ => oB v253 k_) (.slice Ao10 t249.length co10) t249) ∧ Aside0 (Kd.R (Kd.int .i64) 2 w' w.heap.size (fun k_ => oB (.slice Ao10 t249.length co10) k_) v253 x8_2) ∧ Aside0 (Below w.heap.size w w'))
   case atStart => exact ⟨(t252), (0), kF, H', ⟨Nat.le_refl _⟩, ⟨mS HO_5 (fun _ hk => ⟨hk.1.2, hk.2⟩)⟩, ⟨mR HO251 (fun _ hk => hk.2)⟩, ⟨mR HO254 (fun _ hk => hk.2)⟩, ⟨kR1 HB⟩⟩
   case round =>
    clear H'
    obtain ⟨x8_2, x9_2, rfl, HA, HK2, HO_5, HO_7, HO_8, HB⟩ := hrel
    cases gk with
    | zero => exact absurd HA.out (by simp [spec_l07Each.l1])
    | succ k2 =>
     have H := HA.out; clear HA
     simp only [spec_l07Each.l1] at H
     replace H := sG H; rcases H with ⟨c12b0, H⟩ | ⟨c12b0, H⟩
     ·
      replace ⟨LMc18, H⟩ := sM H
      generalize hy257 : ((x5_1 ++ [(⟨t249, x8_2⟩ : S42)]) : List (S42)) = y257 at H
      have Ny257 := yD hy257.symm
      clear hy257
      have H' := yD H
      clear H
      obtain ⟨Ao19, co19, eo19⟩ := Kd.R_slice HO_8.out
      subst eo19
      go_wp2_with (first | ((with_reducible refine gate_builtin (b := .append) (xs := #[.tmp 37, .tmp 41]) rfl ?_); at_builtin; refine Kd.S_append k42 (w0 := w) w.heap.size rfl (.tmp 37) (.tmp 41) 24 42 (.agg #[(.slice none 0 0), (.slice none 0 0)]) 48 rfl Try.underlying24 info42 rfl (by decide) (by omega) u5 x5_1 (⟨t249, x8_2⟩ : S42) [.slice Ao10 t249.length co10, .slice Ao19 x8_2.length co19] (fun _ => True) (fun k_ => some k_ = (.slice Ao10 t249.length co10 : Value).ownBlock ∨ some k_ = (.slice Ao19 x8_2.length co19 : Value).ownBlock) rfl rfl ?aP (fun k_ hk_ => hk_.elim (fun h_ => ((zF (ok' := fun k_ => ((fun _ => True)) k_ ∧ oB u5 k_) (Kd.R_apart' (HO_7.out) (Kd.S_typed HO_5.out) (by decide)) (fun k_ hk => ⟨trivial, hk.2⟩))).1 k_ h_.symm) (fun h_ => ((zF (ok' := fun k_ => ((fun _ => True)) k_ ∧ oB u5 k_) (Kd.R_apart' (HO_8.out) (Kd.S_typed HO_5.out) (by decide)) (fun k_ hk => ⟨trivial, hk.2⟩))).1 k_ h_.symm)) ?aF ?aO ?aB ?aS ?aL ?_; (case aP => exact k42_mkM _ _ _ (⟨t249, x8_2⟩ : S42) (zF (Kd.R_tight rfl (zF (ok' := fun k_ => ((fun _ => True)) k_ ∧ oB u5 k_) (Kd.R_apart' (HO_7.out) (Kd.S_typed HO_5.out) (by decide)) (fun k_ hk => ⟨trivial, hk.2⟩))) (fun _ h_ => Or.inl h_)) (zF (Kd.R_tight rfl (zF (ok' := fun k_ => ((fun _ => True)) k_ ∧ oB u5 k_) (Kd.R_apart' (HO_8.out) (Kd.S_typed HO_5.out) (by decide)) (fun k_ hk => ⟨trivial, hk.2⟩))) (fun _ h_ => Or.inr (h_)))); (case aB => exact (kB HB)); (case aF => exact (fun _ _ => trivial)); (case aO => exact (mS HO_5 (fun k_ hk => ⟨trivial, fun e_ => e_.elim (fun h_ => hk.1 h_) (fun h_ => hk.2 h_)⟩))); (case aS => exact (below_size (kB HB))); (case aL => have := LMc18.out; omega); intro v258 w20 ho hb hg hat; rw [← Ny257.out] at ho; replace HB := yD (hb); have HO259 := yD (ho); clear HO_5 HO_7 HO_8; clear ho hb hg hat))
      go_roundg k2
      case measure => have := HK1.out; have := HK2.out; omega
      case rel => exact ⟨(y257), (wrap64 (x6_1 + 1)), kF, H', ⟨by have := HK1.out; have := HK2.out; omega⟩, ⟨kS HO259⟩, ⟨kR1 HB⟩⟩
     replace ⟨c13b0, H⟩ := sE H
     generalize hy256 : ((x8_2.set (x9_2 : Int).toNat (wrap64 ((rd x8_2 x9_2) + 1))) : List Int) = y256 at H
     have Ny256 := yD hy256.symm
     clear hy256
     have H' := yD H
     clear H
     obtain ⟨Ao15, co15, eo15⟩ := Kd.R_slice HO_8.out
     subst eo15
     obtain ⟨p255, q255, ad255, e255, hx255_0⟩ := sI (Kd.at_int (zA HO_8.out).2.2 x9_2)
     cases e255
     have p14 : 0 ≤ (x9_2 : Int) := zP (by assumption)
     have q14 : (x9_2 : Int) < ((x8_2.length : Int) : Int) := zP (by assumption)
     obtain ⟨go14, co14, eo14, gb14, gl14, cl14, HG14⟩ := Kd.R_form HO_8.out (by omega)
     (first | cases eo14 | (injection eo14 with ea_ en_ ec_; (first | subst ea_ | (injection ea_ with ea_; subst ea_)); subst ec_; clear en_))
     have GB14 := yD gb14
     have GG14 := yD HG14
     clear gb14 gl14 HG14
     (first | simp only [add_plain] at hx255_0 | skip)
     obtain ⟨hx14_0, hf14_0⟩ := Kd.R_celln 0 HO_8.out (x9_2 : Int) p14 q14
     replace p14 := eq_true p14; replace q14 := eq_true q14
     have HP16 := Kd.R_putg HO_8.out (x9_2 : Int) (wrap64 ((rd x8_2 x9_2) + 1))
     go_wp2_with (first | ((with_reducible refine gate_store (t := 2) (p := 36) rfl ?_); refine store_event (t := 2) (p := 36) (v := ?vo_w17) (w1 := (wr.setCell ⟨go14, (x9_2 : Int).toNat, none⟩ (.int .i64 (wrap64 ((rd x8_2 x9_2) + 1))))) ?hg ?ho ?hn ?hr ?_; (case ho => rfl); (case hg => rfl); (case hn => rfl); (case hr => first | (go_simp; done) | (go_simp; rfl)); intro w17 hw; have hg : wr.grownBy w17 (some go14) := (by rw [hw]; exact HP16.2); have hp_ : Kd.R (Kd.int .i64) 2 w17 w.heap.size (fun k_ => oB (.slice Ao10 t249.length co10) k_) (.slice (some ⟨go14, 0, none⟩) x8_2.length co15) y256 := (by rw [hw, Ny256.out]; exact HP16.1); clear HP16; replace HO_5 := yD (Kd.S_after (v := (.slice (some ⟨go14, 0, none⟩) x8_2.length co15)) (v1 := (.slice (some ⟨go14, 0, none⟩) x8_2.length co15)) (ok := (fun k_ => oB (.slice Ao10 t249.length co10) k_)) (kS HO_5) hg (.inl rfl)); replace HO_7 := yD (Kd.R_after (v := (.slice (some ⟨go14, 0, none⟩) x8_2.length co15)) (v1 := (.slice (some ⟨go14, 0, none⟩) x8_2.length co15)) (ok := (fun _ => True)) (mR HO_7 (fun _ hk => ⟨trivial, hk⟩)) hg (.inl rfl)); replace HO_8 := yD (hp_); replace HB := yD ((by rw [hw]; exact yE (HB.out) GB14.out : Below w.heap.size w w17)); clear hg hw hp_))
     go_roundg k2
     case measure => have := HK1.out; have := HK2.out; omega
     case rel => exact ⟨(y256), (wrap64 (x9_2 + 1)), kF, H', ⟨by have := HK1.out; have := HK2.out; omega⟩, ⟨kS HO_5⟩, ⟨mR HO_7 (fun _ hk => hk.2)⟩, ⟨kA HO_8⟩, ⟨kR1 HB⟩⟩

/-! ### spec_l07Holds: function 127 -/
def spec_l07Holds.f (a0 : Int) (a1 : Bool) (a2 : Bool) : Option (Bool) := if a0 = 1 then (if a1 = true then (some true) else (some a2)) else (if a0 = 2 then (if a1 = true then (some a2) else (some false)) else (if a1 = true then (some (!a2)) else (some false)))
theorem spec_l07Holds.calls (a0 : Int) (a1 : Bool) (a2 : Bool) (r : Bool) (w : World) (h : spec_l07Holds.f a0 a1 a2 = some r) :
 Calls Try.prog 127 #[.int .i64 a0, .bool a1, .bool a2] w fun e w' => e = .returned (.bool r) ∧ Drawn0 w w' := by
 have H : (if a0 = 1 then (if a1 = true then (some true) else (some a2)) else (if a0 = 2 then (if a1 = true then (some a2) else (some false)) else (if a1 = true then (some (!a2)) else (some false)))) = some r := h
 clear h
 replace H := sQ H; rcases H with ⟨-, c4b0, c4b1, H⟩ | ⟨c4, c4b0, c4b1, H⟩
 ·
  replace H := sS H; rcases H with ⟨rfl, H⟩ | ⟨rfl, H⟩
  ·
   obtain rfl := sJ H; go_enter Try.func127, Try.ntmps127
   go_wp2
   go_ret
   exact ⟨by first | rfl | (simp; done) | (simp [*]; done), by repeat (first | exact Drawn0.refl _ | apply Drawn0.step)⟩
  obtain rfl := sJ H; go_enter Try.func127, Try.ntmps127
  go_wp2
  go_ret
  exact ⟨by first | rfl | (simp; done) | (simp [*]; done), by repeat (first | exact Drawn0.refl _ | apply Drawn0.step)⟩
 replace H := sP H; rcases H with ⟨c6, c6b0, c6b1, H⟩ | ⟨-, c6b0, c6b1, H⟩
 ·
  replace H := sS H; rcases H with ⟨rfl, H⟩ | ⟨rfl, H⟩
  ·
   obtain rfl := sJ H; go_enter Try.func127, Try.ntmps127
   go_wp2
   go_ret
   exact ⟨by first | rfl | (simp; done) | (simp [*]; done), by repeat (first | exact Drawn0.refl _ | apply Drawn0.step)⟩
  obtain rfl := sJ H; go_enter Try.func127, Try.ntmps127
  go_wp2
  go_ret
  exact ⟨by first | rfl | (simp; done) | (simp [*]; done), by repeat (first | exact Drawn0.refl _ | apply Drawn0.step)⟩
 replace H := sS H; rcases H with ⟨rfl, H⟩ | ⟨rfl, H⟩
 ·
  obtain rfl := sJ H; go_enter Try.func127, Try.ntmps127
  go_wp2
  go_ret
  exact ⟨by first | rfl | (simp; done) | (simp [*]; done), by repeat (first | exact Drawn0.refl _ | apply Drawn0.step)⟩
 obtain rfl := sJ H; go_enter Try.func127, Try.ntmps127
 go_wp2
 go_ret
 exact ⟨by first | rfl | (simp; done) | (simp [*]; done), by repeat (first | exact Drawn0.refl _ | apply Drawn0.step)⟩

/-! ### spec_l00Put: function 148 -/
mutual
def spec_l00Put.l0 : Nat → List Int → Int → List Int → Bool → Int → Option (List Int)
 | 0, _, _, _, _, _ => none
 | k + 1, x0, x1, x5, x6, x7 => if x7 < (x0.length : Int) then (if x6 = true then (spec_l00Put.j1 k x0 x1 x5 x6 x7 false) else (if 0 ≤ x7 then (spec_l00Put.j1 k x0 x1 x5 x6 x7 (decide ((rd x0 x7) ≥ x1))) else (none))) else (if x6 = true then (some x5) else (if x5.length < 17592186044416 then (some (x5 ++ [x1])) else (none)))
def spec_l00Put.j1 : Nat → List Int → Int → List Int → Bool → Int → Bool → Option (List Int)
 | 0, _, _, _, _, _, _ => none
 | k + 1, x0, x1, x5, x6, x7, x24 => if x24 = true then (if 0 ≤ x7 then (if x7 < (x0.length : Int) then (if (rd x0 x7) > x1 then (if x5.length < 17592186044416 then ((some (x5 ++ [x1] : List Int)).bind fun y268 => (if y268.length < 17592186044416 then (spec_l00Put.l0 k x0 x1 (y268 ++ [rd x0 x7]) true (wrap64 (x7 + 1))) else (none))) else (none)) else (if x5.length < 17592186044416 then (spec_l00Put.l0 k x0 x1 (x5 ++ [rd x0 x7]) true (wrap64 (x7 + 1))) else (none))) else (none)) else (none)) else (if 0 ≤ x7 then (if x7 < (x0.length : Int) then (if x5.length < 17592186044416 then (spec_l00Put.l0 k x0 x1 (x5 ++ [rd x0 x7]) x6 (wrap64 (x7 + 1))) else (none)) else (none)) else (none))
end
def spec_l00Put.f (k : Nat) (l0 : List Int) (a1 : Int) : Option (List Int) := spec_l00Put.l0 k l0 a1 (([] : List Int)) false 0
theorem spec_l00Put.calls (k : Nat) (A0 : Option Addr) (c0 : Nat) (l0 : List Int) (a1 : Int) (r : List Int) (w : World) (C0 : Cm (Kd.int .i64) w A0 c0 l0) (h : spec_l00Put.f k l0 a1 = some r) :
 Calls Try.prog 148 #[.slice A0 l0.length c0, .int .i64 a1] w fun e w' => ∃ v0_ : Value, e = .returned (v0_) ∧ Kd.R (Kd.int .i64) 2 w' w.heap.size (fun _ => True) v0_ r ∧ Below w.heap.size w w' := by
 have HB := yD (Below.refl w.heap.size w)
 have H : (spec_l00Put.l0 k l0 a1 (([] : List Int)) false 0) = some r := h
 clear h
 obtain ⟨y260, hy260⟩ : ∃ y_ : List Int, y_ = (([] : List Int)) := ⟨_, rfl⟩
 replace H : (spec_l00Put.l0 k l0 a1 y260 false 0) = some r := by first | (rw [hy260]; with_reducible exact H) | (have H2_ := (Option.bind_some _ _).symm.trans H; rw [hy260]; with_reducible exact H2_) | (have H2_ := (Option.bind_some _ _).symm.trans H; with_reducible exact H2_) | with_reducible exact H | (rw [hy260]; exact H) | exact H
 have Ny260 := yD hy260
 clear hy260
 have H' := yD H
 clear H; go_enter Try.func148, Try.ntmps148
 go_wp2_with (first | ((with_reducible refine gate_dst (N := 8) rfl ?_); refine Kd.R_lit (Kd.int .i64) _ 2 ?hg (N := 8) ?hd (xs := ([] : List Int)) (inner := []) (ok := fun _ => True) (okp := fun _ => True) ?hr ?hp (fun _ hk => hk) trivial (Below.refl _ _) (Nat.le_refl _) (by simp) ?_; (case hd => rfl); (case hg => rfl); (case hr => first | (go_simp; done) | (go_simp; rfl)); (case hp => exact (Reps.none _ _)); intro v261 w3 ho4 hb hg_ hnew_; clear hg_ hnew_; (first | rw [← Ny260.out] at ho4 | (simp only [Int.reduceToNat] at ho4; rw [← Ny260.out] at ho4)); have HO262 := yD (yZ ho4 (below_size (kB HB))); replace HB := zX HB hb; clear hb ho4))
 (try simp only [Act.put, zH, zI, zJ])
 go_loopg [5, 6, 7] k (fun kq v5 v6 v7 w' => ∃ (x5_1 : List Int) (x6_1 : Bool) (x7_1 : Int), v6 = .bool x6_1 ∧ v7 = .int .i64 x7_1 ∧ Aside0 (spec_l00Put.l0 kq l0 a1 x5_1 x6_1 x7_1 = some r) ∧ Aside0 (kq ≤ k) ∧ Aside0 (Kd.R (Kd.int .i64) 2 w' w.heap.size (fun _ => True) v5 x5_1) ∧ Aside0 (Below w.heap.size w w'))
 case atStart => exact ⟨(y260), (false), (0), kF, kF, H', ⟨Nat.le_refl _⟩, ⟨kA HO262⟩, ⟨kR1 HB⟩⟩
 case round =>
  clear H'
  obtain ⟨x5_1, x6_1, x7_1, rfl, rfl, HA, HK1, HO_5, HB⟩ := hrel
  cases gk with
  | zero => exact absurd HA.out (by simp [spec_l00Put.l0])
  | succ k1 =>
   have H := HA.out; clear HA
   simp only [spec_l00Put.l0] at H
   replace H := sG H; rcases H with ⟨c5b0, H⟩ | ⟨c5b0, H⟩
   ·
    replace H := sT H; rcases H with ⟨rfl, H⟩ | ⟨rfl, H⟩
    ·
     obtain rfl := sJ H
     go_wp2
     go_ret
     exact ⟨_, kE, kA HO_5, kR1 HB⟩
    replace ⟨LMc24, H⟩ := sM H
    obtain ⟨y263, hy263⟩ : ∃ y_ : List Int, y_ = (x5_1 ++ [a1]) := ⟨_, rfl⟩
    replace H : (some y263) = some r := by first | (rw [hy263]; with_reducible exact H) | (have H2_ := (Option.bind_some _ _).symm.trans H; rw [hy263]; with_reducible exact H2_) | (have H2_ := (Option.bind_some _ _).symm.trans H; with_reducible exact H2_) | with_reducible exact H | (rw [hy263]; exact H) | exact H
    have Ny263 := yD hy263
    clear hy263; obtain rfl := sJ H
    go_wp2_with (first | ((with_reducible refine gate_builtin (b := .append) (xs := #[.tmp 44, .tmp 46]) rfl ?_); at_builtin; refine Kd.R_append (Kd.int .i64) (w0 := w) w.heap.size rfl (.tmp 44) (.tmp 46) 36 2 (.int .i64 0) 8 rfl Try.underlying36 info2 rfl (by decide) (by omega) u5 x5_1 a1 [.int .i64 a1] (fun _ => True) (fun _ => False) rfl rfl ?aP (fun _ hk => hk.elim) ?aF ?aO ?aB ?aS ?aL ?_; (case aP => exact rfl); (case aB => exact (kB HB)); (case aF => exact (fun _ _ => trivial)); (case aO => exact (kA HO_5)); (case aS => exact (below_size (kB HB))); (case aL => have := LMc24.out; omega); intro v264 w25 ho hb hg hat; rw [← Ny263.out] at ho; replace HB := yD (hb); have HO265 := yD (ho); clear HO_5; clear ho hb hg hat))
    go_ret
    exact ⟨_, kE, kA HO265, kR1 HB⟩
   have HC6 := yD H
   clear H
   go_upto_region 6 with (fail)
   go_cut [24] (fun v24 wc => ∃ (kq : Nat) (x24_5 : Bool), v24 = .bool x24_5 ∧ Aside0 (spec_l00Put.j1 kq l0 a1 x5_1 x6_1 x7_1 x24_5 = some r) ∧ Aside0 (kq ≤ k1) ∧ Aside0 (Kd.R (Kd.int .i64) 2 wc w.heap.size (fun _ => True) u5 x5_1) ∧ Aside0 (Below w.heap.size w wc))
   case first =>
    have H := HC6.out; clear HC6
    replace H := sT H; rcases H with ⟨rfl, H⟩ | ⟨rfl, H⟩
    ·
     have H' := yD H
     clear H
     go_wp2
     go_meet
     case rel => exact ⟨_, (false), kF, H', ⟨by have := HK1.out; first | omega | exact Nat.le_refl _⟩, ⟨kA HO_5⟩, ⟨kR1 HB⟩⟩
    replace ⟨c8b0, H⟩ := sE H
    (first | rw [c8b0] | (simp only [i64_w, i32_w]; rw [c8b0]) | (simp only [bne] at c8b0; rw [c8b0]) | skip)
    have H' := yD H
    clear H
    obtain ⟨p266, q266, ad266, e266, hx266_0⟩ := sI (Kd.at_int C0.r x7_1)
    cases e266
    replace hx266_0 := kD HB hx266_0
    go_wp2
    go_meet
    case rel => exact ⟨_, (decide ((rd l0 x7_1) ≥ a1)), kF, H', ⟨by have := HK1.out; first | omega | exact Nat.le_refl _⟩, ⟨kA HO_5⟩, ⟨kR1 HB⟩⟩
   case rest =>
    clear HC6
    obtain ⟨kq, x24_5, rfl, HA, HJ5, HO_5, HB⟩ := hcut
    cases kq with
    | zero => exact absurd HA.out (by simp [spec_l00Put.j1])
    | succ kj5 =>
     have H := HA.out; clear HA
     simp only [spec_l00Put.j1] at H
     replace H := sS H; rcases H with ⟨rfl, H⟩ | ⟨rfl, H⟩
     ·
      replace ⟨c19b0, H⟩ := sE H
      replace ⟨c20b0, H⟩ := sE H
      replace ⟨LMc21, H⟩ := sM H
      generalize hy280 : ((x5_1 ++ [rd l0 x7_1]) : List Int) = y280 at H
      have Ny280 := yD hy280.symm
      clear hy280
      have H' := yD H
      clear H
      obtain ⟨p279, q279, ad279, e279, hx279_0⟩ := sI (Kd.at_int C0.r x7_1)
      cases e279
      replace hx279_0 := kD HB hx279_0
      go_wp2_with (first | ((with_reducible refine gate_builtin (b := .append) (xs := #[.tmp 35, .tmp 40]) rfl ?_); at_builtin; refine Kd.R_append (Kd.int .i64) (w0 := w) w.heap.size rfl (.tmp 35) (.tmp 40) 36 2 (.int .i64 0) 8 rfl Try.underlying36 info2 rfl (by decide) (by omega) u5 x5_1 (rd l0 x7_1) [.int .i64 (rd l0 x7_1)] (fun _ => True) (fun _ => False) rfl rfl ?aP (fun _ hk => hk.elim) ?aF ?aO ?aB ?aS ?aL ?_; (case aP => exact rfl); (case aB => exact (kB HB)); (case aF => exact (fun _ _ => trivial)); (case aO => exact (kA HO_5)); (case aS => exact (below_size (kB HB))); (case aL => have := LMc21.out; omega); intro v281 w22 ho hb hg hat; rw [← Ny280.out] at ho; replace HB := yD (hb); have HO282 := yD (ho); clear HO_5; clear ho hb hg hat))
      go_roundg kj5
      case measure => have := HK1.out; have := HJ5.out; omega
      case rel => exact ⟨(y280), (x6_1), (wrap64 (x7_1 + 1)), kF, kF, H', ⟨by have := HK1.out; have := HJ5.out; omega⟩, ⟨kA HO282⟩, ⟨kR1 HB⟩⟩
     replace ⟨c10b0, H⟩ := sE H
     replace ⟨c11b0, H⟩ := sE H
     replace H := sC H; rcases H with ⟨c12, H⟩ | ⟨c12, H⟩
     ·
      have c12b0 : decide (a1 < (rd l0 x7_1)) = false := zS c12; clear c12
      replace ⟨LMc17, H⟩ := sM H
      generalize hy276 : ((x5_1 ++ [rd l0 x7_1]) : List Int) = y276 at H
      have Ny276 := yD hy276.symm
      clear hy276
      have H' := yD H
      clear H
      obtain ⟨p267, q267, ad267, e267, hx267_0⟩ := sI (Kd.at_int C0.r x7_1)
      cases e267
      replace hx267_0 := kD HB hx267_0
      obtain ⟨p275, q275, ad275, e275, hx275_0⟩ := sI (Kd.at_int C0.r x7_1)
      obtain rfl : ad267 = ad275 := (by injection e275)
      replace hx275_0 := kD HB hx275_0
      go_wp2_with (first | ((with_reducible refine gate_builtin (b := .append) (xs := #[.tmp 35, .tmp 40]) rfl ?_); at_builtin; refine Kd.R_append (Kd.int .i64) (w0 := w) w.heap.size rfl (.tmp 35) (.tmp 40) 36 2 (.int .i64 0) 8 rfl Try.underlying36 info2 rfl (by decide) (by omega) u5 x5_1 (rd l0 x7_1) [.int .i64 (rd l0 x7_1)] (fun _ => True) (fun _ => False) rfl rfl ?aP (fun _ hk => hk.elim) ?aF ?aO ?aB ?aS ?aL ?_; (case aP => exact rfl); (case aB => exact (kB HB)); (case aF => exact (fun _ _ => trivial)); (case aO => exact (kA HO_5)); (case aS => exact (below_size (kB HB))); (case aL => have := LMc17.out; omega); intro v277 w18 ho hb hg hat; rw [← Ny276.out] at ho; replace HB := yD (hb); have HO278 := yD (ho); clear HO_5; clear ho hb hg hat))
      go_roundg kj5
      case measure => have := HK1.out; have := HJ5.out; omega
      case rel => exact ⟨(y276), (true), (wrap64 (x7_1 + 1)), kF, kF, H', ⟨by have := HK1.out; have := HJ5.out; omega⟩, ⟨kA HO278⟩, ⟨kR1 HB⟩⟩
     have c12b0 : decide (a1 < (rd l0 x7_1)) = true := zR c12; clear c12
     replace ⟨LMc13, H⟩ := sM H
     generalize hy268 : ((x5_1 ++ [a1]) : List Int) = y268 at H
     have Ny268 := yD hy268.symm
     clear hy268
     replace ⟨LMc14, H⟩ := sM H
     generalize hy272 : ((y268 ++ [rd l0 x7_1]) : List Int) = y272 at H
     have Ny272 := yD hy272.symm
     clear hy272
     have H' := yD H
     clear H
     obtain ⟨p267, q267, ad267, e267, hx267_0⟩ := sI (Kd.at_int C0.r x7_1)
     cases e267
     replace hx267_0 := kD HB hx267_0
     go_wp2_with (first | ((with_reducible refine gate_builtin (b := .append) (xs := #[.tmp 31, .tmp 33]) rfl ?_); at_builtin; refine Kd.R_append (Kd.int .i64) (w0 := w) w.heap.size rfl (.tmp 31) (.tmp 33) 36 2 (.int .i64 0) 8 rfl Try.underlying36 info2 rfl (by decide) (by omega) u5 x5_1 a1 [.int .i64 a1] (fun _ => True) (fun _ => False) rfl rfl ?aP (fun _ hk => hk.elim) ?aF ?aO ?aB ?aS ?aL ?_; (case aP => exact rfl); (case aB => exact (kB HB)); (case aF => exact (fun _ _ => trivial)); (case aO => exact (kA HO_5)); (case aS => exact (below_size (kB HB))); (case aL => have := LMc13.out; omega); intro v269 w15 ho hb hg hat; rw [← Ny268.out] at ho; replace HB := yD (hb); have HO270 := yD (ho); clear HO_5; clear ho hb hg hat; have p271 : 0 ≤ (x7_1 : Int) := zP (by assumption); have q271 : x7_1 < (l0.length : Int) := zP (by assumption); obtain ⟨ad271, e271, hx271_0⟩ := Kd.at_int C0.r x7_1 p271 q271; obtain rfl : ad267 = ad271 := (by injection e271); replace hx271_0 := kD HB hx271_0; replace p271 := eq_true p271; replace q271 := eq_true q271) | ((with_reducible refine gate_builtin (b := .append) (xs := #[.tmp 35, .tmp 40]) rfl ?_); at_builtin; refine Kd.R_append (Kd.int .i64) (w0 := w) w.heap.size rfl (.tmp 35) (.tmp 40) 36 2 (.int .i64 0) 8 rfl Try.underlying36 info2 rfl (by decide) (by omega) v269 y268 (rd l0 x7_1) [.int .i64 (rd l0 x7_1)] (fun _ => True) (fun _ => False) rfl rfl ?aP (fun _ hk => hk.elim) ?aF ?aO ?aB ?aS ?aL ?_; (case aP => exact rfl); (case aB => exact (kB HB)); (case aF => exact (fun _ _ => trivial)); (case aO => exact (kA HO270)); (case aS => exact (below_size (kB HB))); (case aL => have := LMc14.out; omega); intro v273 w16 ho hb hg hat; rw [← Ny272.out] at ho; replace HB := yD (hb); have HO274 := yD (ho); clear HO270; clear ho hb hg hat))
     go_roundg kj5
     case measure => have := HK1.out; have := HJ5.out; omega
     case rel => exact ⟨(y272), (true), (wrap64 (x7_1 + 1)), kF, kF, H', ⟨by have := HK1.out; have := HJ5.out; omega⟩, ⟨kA HO274⟩, ⟨kR1 HB⟩⟩

/-! ### spec_l07Cuts: function 128 -/
def spec_l07Cuts.l0 : Nat → List Int → List (S42) → Int → Option (List Int)
 | 0, _, _, _ => none
 | k + 1, x0, x1, x5 => if x5 < (x1.length : Int) then (if 0 ≤ x5 then (if 0 < (((rd_T42 x1 x5).f0).length : Int) then ((spec_l00Put.f k x0 (rd ((rd_T42 x1 x5).f0) 0)).bind fun t285 => (if 0 < (((rd_T42 x1 x5).f1).length : Int) then ((spec_l00Put.f k t285 (rd ((rd_T42 x1 x5).f1) 0)).bind fun t290 => (spec_l07Cuts.l0 k t290 x1 (wrap64 (x5 + 1)))) else (none))) else (none)) else (none)) else (some x0)
def spec_l07Cuts.f (k : Nat) (l0 : List Int) (l1 : List (S42)) : Option (List Int) := spec_l07Cuts.l0 k l0 l1 0
theorem spec_l07Cuts.calls (k : Nat) (P0_ : Nat → Prop) (A0 : Option Addr) (c0 : Nat) (l0 : List Int) (A1 : Option Addr) (c1 : Nat) (l1 : List (S42)) (r : List Int) (w : World) (hs0 : Kd.V (Kd.int .i64) 2 w w.heap.size (fun k_ => P0_ k_) (.slice A0 l0.length c0) l0) (C1 : Cm k42 w A1 c1 l1) (h : spec_l07Cuts.f k l0 l1 = some r) :
 Calls Try.prog 128 #[.slice A0 l0.length c0, .slice A1 l1.length c1] w fun e w' => ∃ v0_ : Value, e = .returned (v0_) ∧ Kd.V (Kd.int .i64) 2 w' w.heap.size (fun k_ => (P0_ k_ ∨ w.heap.size ≤ k_)) v0_ r ∧ Below w.heap.size w w' := by
 have HO0 := yD (show Kd.V (Kd.int .i64) 2 w w.heap.size (fun k_ => (P0_ k_ ∨ w.heap.size ≤ k_)) (.slice A0 l0.length c0) l0 from Kd.V_mono hs0 (fun k_ hk => .inl hk))
 have HB := yD (Below.refl w.heap.size w)
 have H : (spec_l07Cuts.l0 k l0 l1 0) = some r := h
 clear h
 have H' := yD H
 clear H; go_enter Try.func128, Try.ntmps128
 go_wp2
 go_loopg [0, 5] k (fun kq v0 v5 w' => ∃ (x0_1 : List Int) (x5_1 : Int), v5 = .int .i64 x5_1 ∧ Aside0 (spec_l07Cuts.l0 kq x0_1 l1 x5_1 = some r) ∧ Aside0 (kq ≤ k) ∧ Aside0 (Kd.V (Kd.int .i64) 2 w' w.heap.size (fun k_ => (P0_ k_ ∨ w.heap.size ≤ k_)) v0 x0_1) ∧ Aside0 (Below w.heap.size w w'))
 case atStart => exact ⟨(l0), (0), kF, H', ⟨Nat.le_refl _⟩, ⟨kU HO0⟩, ⟨kR1 HB⟩⟩
 case round =>
  clear H'
  obtain ⟨x0_1, x5_1, rfl, HA, HK1, HO_0, HB⟩ := hrel
  cases gk with
  | zero => exact absurd HA.out (by simp [spec_l07Cuts.l0])
  | succ k1 =>
   have H := HA.out; clear HA
   simp only [spec_l07Cuts.l0] at H
   replace H := sG H; rcases H with ⟨c3b0, H⟩ | ⟨c3b0, H⟩
   · obtain rfl := sJ H
     go_wp2
     go_ret
     exact ⟨_, kE, kU HO_0, kR1 HB⟩
   replace ⟨c4b0, H⟩ := sE H
   replace ⟨c5, H⟩ := sD H
   have c5b0 : decide (0 < (((rd_T42 l1 x5_1).f0).length : Int)) = true := zR c5
   have c5b1 : decide (0 < ((rd_T42 l1 x5_1).f0).length) = true := zR (by omega)
   clear c5
   replace ⟨t285, A6, H⟩ := sV H
   replace ⟨c7, H⟩ := sD H
   have c7b0 : decide (0 < (((rd_T42 l1 x5_1).f1).length : Int)) = true := zR c7
   have c7b1 : decide (0 < ((rd_T42 l1 x5_1).f1).length) = true := zR (by omega)
   clear c7
   replace ⟨t290, A8, H⟩ := sV H
   have H' := yD H
   clear H
   obtain ⟨p283, q283, ad283, A283_0, c283_0, A283_1, c283_1, e283, hx283_0, hx283_1, HC283_0, HR283_0, HC283_1, HR283_1⟩ := sI (at_T42 C1.r x5_1)
   cases e283
   replace hx283_0 := kD HB hx283_0
   replace hx283_1 := kD HB hx283_1
   have p284 : 0 ≤ (0 : Int) := (by omega)
   have q284 : 0 < (((rd_T42 l1 x5_1).f0).length : Int) := zP (by assumption)
   obtain ⟨ad284, e284, hx284_0⟩ := Kd.at_int HR283_0.out 0 p284 q284
   cases e284
   have qi284 : (0 < ((rd_T42 l1 x5_1).f0).length) = True := eq_true (by omega)
   (try rw [show ((0 : Int)).toNat = 0 from rfl] at hx284_0)
   (try rw [Addr.add_zero'] at hx284_0)
   replace hx284_0 := kD HB hx284_0
   replace p284 := eq_true p284; replace q284 := eq_true q284
   obtain ⟨Ao9, co9, eo9⟩ := Kd.V_slice HO_0.out
   subst eo9
   go_wp2_with (first | ((with_reducible refine gate_callee (f := 148) rfl ?_); refine gL 20 Try.func148 _ ((spec_l00Put.calls k1 _ _ x0_1 (rd ((rd_T42 l1 x5_1).f0) 0) t285 _ ?z1 A6.out).mono ?_); (case z1 => exact ⟨kV (Kd.V_reads' HO_0.out).2.2, (Kd.V_reads' HO_0.out).2.1⟩); rintro e w10 ⟨v286, rfl, ho0, hb⟩; refine ⟨_, rfl, ?_⟩; replace HO_0 := yD (Kd.V_elder' (kU HO_0) (yH ho0) hb); have HO287 := yD (yZ (Kd.R_newM (M := fun k_ => (w.heap.size ≤ k_)) ho0 (below_size (kB HB)) (fun k_ h_ => h_)) (below_size (kB HB))); replace HB := zX HB hb; clear hb ho0; have p288 : 0 ≤ (x5_1 : Int) := zP (by assumption); have q288 : x5_1 < (l1.length : Int) := zP (by assumption); obtain ⟨ad288, A288_0, c288_0, A288_1, c288_1, e288, hx288_0, hx288_1, HC288_0, HR288_0, HC288_1, HR288_1⟩ := at_T42 C1.r x5_1 p288 q288; obtain rfl : ad283 = ad288 := (by injection e288); replace hx288_0 := kD HB hx288_0; replace hx288_1 := kD HB hx288_1; replace p288 := eq_true p288; replace q288 := eq_true q288; have p289 : 0 ≤ (0 : Int) := (by omega); have q289 : 0 < (((rd_T42 l1 x5_1).f1).length : Int) := zP (by assumption); obtain ⟨ad289, e289, hx289_0⟩ := Kd.at_int HR288_1.out 0 p289 q289; cases e289; have qi289 : (0 < ((rd_T42 l1 x5_1).f1).length) = True := eq_true (by omega); (try rw [show ((0 : Int)).toNat = 0 from rfl] at hx289_0); (try rw [Addr.add_zero'] at hx289_0); replace hx289_0 := kD HB hx289_0; replace p289 := eq_true p289; replace q289 := eq_true q289; obtain ⟨Ao11, co11, eo11⟩ := Kd.R_slice HO287.out; subst eo11) | ((with_reducible refine gate_callee (f := 148) rfl ?_); refine gL 29 Try.func148 _ ((spec_l00Put.calls k1 _ _ t285 (rd ((rd_T42 l1 x5_1).f1) 0) t290 _ ?z1 A8.out).mono ?_); (case z1 => exact ⟨kV (zA HO287.out).2.2, (zA HO287.out).2.1⟩); rintro e w12 ⟨v291, rfl, ho0, hb⟩; refine ⟨_, rfl, ?_⟩; replace HO_0 := yD (Kd.V_elder' (kU HO_0) (yH ho0) hb); have HO292 := yD (yZ (yJ (Kd.R_newM (M := fun k_ => (w.heap.size ≤ k_)) ho0 (below_size (kB HB)) (fun k_ h_ => h_)) (yK (kA HO287))) (below_size (kB HB))); replace HO287 := yD (Kd.R_elder' (kA HO287) (yH ho0) hb); replace HB := zX HB hb; clear hb ho0))
   go_roundg k1
   case measure => have := HK1.out; omega
   case rel => exact ⟨(t290), (wrap64 (x5_1 + 1)), kF, H', ⟨by have := HK1.out; omega⟩, ⟨Kd.V_mono (Kd.R_V (mR HO292 (fun _ hk => hk.1.1))) (fun k_ hk => by first | exact ⟨(.inr (hk.1)), hk.2⟩ | exact (.inr (hk)))⟩, ⟨kR1 HB⟩⟩
/-! ### spec_l07Cross: function 129 -/
def spec_l07Cross.l0 : Nat → List (S42) → Int → List (S42) → Int → Option ((List (S42)))
 | 0, _, _, _, _ => none
 | k + 1, x0, x1, x5, x6 => if x6 < (x0.length : Int) then (if 0 ≤ x6 then (if 0 < (((rd_T42 x0 x6).f0).length : Int) then (if 0 < (((rd_T42 x0 x6).f1).length : Int) then ((spec_l00In.f x1 (rd ((rd_T42 x0 x6).f0) 0) (wrap64 ((rd ((rd_T42 x0 x6).f1) 0) - 1))).bind fun t300 => (if t300 = true then (if 1 ≤ (((rd_T42 x0 x6).f0).length : Int) then (if 1 ≤ (((rd_T42 x0 x6).f1).length : Int) then (if x5.length < 2932031007402 then (spec_l07Cross.l0 k x0 x1 (x5 ++ [(⟨(((rd_T42 x0 x6).f0).drop 1), (((rd_T42 x0 x6).f1).drop 1)⟩ : S42)]) (wrap64 (x6 + 1))) else (none)) else (none)) else (none)) else (spec_l07Cross.l0 k x0 x1 x5 (wrap64 (x6 + 1))))) else (none)) else (none)) else (none)) else (some x5)
def spec_l07Cross.f (k : Nat) (l0 : List (S42)) (a1 : Int) : Option ((List (S42))) := spec_l07Cross.l0 k l0 a1 (([] : List (S42))) 0
def spec_l07Cross.T5 : Bool × List (List Nat × List Nat) := (true, [([], []), ([], []), ([], []), ([1, 2], [1, 2]), ([3], [3]), ([4], [4]), ([5], [5]), ([6], [6]), ([], []), ([], []), ([8, 9], [8, 9]), ([10], [10]), ([11], [11]), ([12], [12]), ([13], [13]), ([14], [14]), ([0, 7, 15], [0, 7, 15])])
def spec_l07Cross.B5 : List Nat := [0, 0, 0, 6, 14, 30, 62, 126, 0, 0, 768, 1792, 3840, 7936, 16128, 32512, 65535]
theorem spec_l07Cross.tab5 : rtab .any (opsOf Try.f129 5) = spec_l07Cross.T5 := by kernel_rfl
theorem spec_l07Cross.bits5 : waitsOk spec_l07Cross.T5.2 spec_l07Cross.B5 = true := by kernel_rfl
def spec_l07Cross.T6 : Bool × List (List Nat × List Nat) := (true, [([], []), ([], []), ([], []), ([1, 2], [1, 2]), ([3], [3]), ([4], [4]), ([5], [5]), ([], []), ([], []), ([7, 8], [7, 8]), ([9], [9]), ([10], [10]), ([11], [11]), ([6, 12], [6, 12]), ([13], [13]), ([0, 14], [0, 14]), ([15, 15, 0, 1, 2, 3, 4, 5, 6, 7, 8, 9, 10, 11, 12, 13, 14, 15], [0, 15])])
def spec_l07Cross.B6 : List Nat := [0, 0, 0, 6, 14, 30, 62, 0, 0, 384, 896, 1920, 3968, 8190, 16382, 32767, 65535]
theorem spec_l07Cross.tab6 : rtab .any (opsOf Try.f129 6) = spec_l07Cross.T6 := by kernel_rfl
theorem spec_l07Cross.bits6 : waitsOk spec_l07Cross.T6.2 spec_l07Cross.B6 = true := by kernel_rfl
theorem spec_l07Cross.calls (k : Nat) (P0_ : Nat → Prop) (A0 : Option Addr) (c0 : Nat) (l0 : List (S42)) (a1 : Int) (r : List (S42)) (w : World) (hs0 : Kd.V k42 42 w w.heap.size (fun k_ => P0_ k_) (.slice A0 l0.length c0) l0) (h : spec_l07Cross.f k l0 a1 = some r) :
 Calls Try.prog 129 #[.slice A0 l0.length c0, .int .i64 a1] w fun e w' => ∃ v0_ : Value, e = .returned (v0_) ∧ Kd.V k42 42 w' w.heap.size (fun k_ => (P0_ k_ ∨ w.heap.size ≤ k_)) v0_ r ∧ Below w.heap.size w w' := by
 have hu42 := Try.underlying42
 have HO0 := yD (show Kd.V k42 42 w w.heap.size (fun k_ => (P0_ k_ ∨ w.heap.size ≤ k_)) (.slice A0 l0.length c0) l0 from Kd.V_mono hs0 (fun k_ hk => .inl hk))
 have HB := yD (Below.refl w.heap.size w)
 have H : (spec_l07Cross.l0 k l0 a1 (([] : List (S42))) 0) = some r := h
 clear h
 obtain ⟨y293, hy293⟩ : ∃ y_ : List (S42), y_ = (([] : List (S42))) := ⟨_, rfl⟩
 replace H : (spec_l07Cross.l0 k l0 a1 y293 0) = some r := by first | (rw [hy293]; with_reducible exact H) | (have H2_ := (Option.bind_some _ _).symm.trans H; rw [hy293]; with_reducible exact H2_) | (have H2_ := (Option.bind_some _ _).symm.trans H; with_reducible exact H2_) | with_reducible exact H | (rw [hy293]; exact H) | exact H
 have Ny293 := yD hy293
 clear hy293
 have H' := yD H
 clear H; go_enter Try.func129, Try.ntmps129
 go_wp2_with (first | ((with_reducible refine gate_dst (N := 7) rfl ?_); refine Kd.N_lit k42 _ 42 ?hg (N' := 7) ?hd (xs := ([] : List (S42))) (inner := []) (ok := (fun k_ => (P0_ k_ ∨ w.heap.size ≤ k_))) (okp := (fun k_ => (P0_ k_ ∨ w.heap.size ≤ k_))) ?hr ?hp (fun _ hk => hk) ((show ∀ k_, w.heap.size ≤ k_ → (fun k_ => (P0_ k_ ∨ w.heap.size ≤ k_)) k_ from fun k_ hk => (.inr (Nat.le_trans (below_size (kB HB)) hk))) _ (Nat.le_refl _)) (Below.refl _ _) (Nat.le_refl _) (by simp) ?_; (case hd => rfl); (case hg => rfl); (case hr => first | (go_simp; done) | (go_simp; rfl)); (case hp => exact (Reps.none _ _)); intro v294 w3 ho4 hb hg_ hnew_; clear hg_ hnew_; (first | rw [← Ny293.out] at ho4 | (simp only [Int.reduceToNat] at ho4; rw [← Ny293.out] at ho4)); replace HO0 := yD (Kd.V_elder' (kU HO0) (Kd.N_base ho4) hb); have HO295 := yD (Kd.N_lower ho4 (below_size (kB HB))); replace HB := zX HB hb; clear hb ho4))
 (try simp only [Act.put, zH, zI, zJ])
 go_loopg [5, 6] k (fun kq v5 v6 w' => ∃ (x5_1 : List (S42)) (x6_1 : Int), v6 = .int .i64 x6_1 ∧ Aside0 (spec_l07Cross.l0 kq l0 a1 x5_1 x6_1 = some r) ∧ Aside0 (kq ≤ k) ∧ Aside0 (Kd.V k42 42 w' w.heap.size (fun k_ => (P0_ k_ ∨ w.heap.size ≤ k_) ∧ oB v5 k_) (.slice A0 l0.length c0) l0) ∧ Aside0 (Kd.N k42 42 w' w.heap.size (fun k_ => (P0_ k_ ∨ w.heap.size ≤ k_)) v5 x5_1) ∧ Aside0 (Below w.heap.size w w'))
 case atStart => exact ⟨(y293), (0), kF, H', ⟨Nat.le_refl _⟩, ⟨kU HO0⟩, ⟨kQ HO295⟩, ⟨kR1 HB⟩⟩
 case round =>
  clear H'
  obtain ⟨x5_1, x6_1, rfl, HA, HK1, HO_0, HO_5, HB⟩ := hrel
  cases gk with
  | zero => exact absurd HA.out (by simp [spec_l07Cross.l0])
  | succ k1 =>
   have H := HA.out; clear HA
   simp only [spec_l07Cross.l0] at H
   replace H := sG H; rcases H with ⟨c5b0, H⟩ | ⟨c5b0, H⟩
   · obtain rfl := sJ H
     go_wp2
     go_ret
     exact ⟨_, kE, Kd.N_V (kQ HO_5), kR1 HB⟩
   replace ⟨c6b0, H⟩ := sE H
   replace ⟨c7, H⟩ := sD H
   have c7b0 : decide (0 < (((rd_T42 l0 x6_1).f0).length : Int)) = true := zR c7
   have c7b1 : decide (0 < ((rd_T42 l0 x6_1).f0).length) = true := zR (by omega)
   clear c7
   replace ⟨c8, H⟩ := sD H
   have c8b0 : decide (0 < (((rd_T42 l0 x6_1).f1).length : Int)) = true := zR c8
   have c8b1 : decide (0 < ((rd_T42 l0 x6_1).f1).length) = true := zR (by omega)
   clear c8
   replace ⟨t300, A9, H⟩ := sV H
   replace H := sS H; rcases H with ⟨rfl, H⟩ | ⟨rfl, H⟩
   ·
    have H' := yD H
    clear H
    try go_wp2
    replace HO_0 := yD (Kd.V_drew HO_0.out); replace HO_5 := yD (Kd.N_drew HO_5.out); replace HB := yD (yP HB.out)
    have p296 : 0 ≤ (x6_1 : Int) := zP (by assumption)
    have q296 : x6_1 < (l0.length : Int) := zP (by assumption)
    obtain ⟨ad296, A296_0, c296_0, A296_1, c296_1, e296, hx296_0, hx296_1, HC296_0, HR296_0, HC296_1, HR296_1⟩ := at_T42 (Kd.V_reads' HO_0.out).2.2 x6_1 p296 q296
    cases e296
    obtain ⟨ce296, hce296, hMe296, hcc296⟩ := Kd.V_get HO_0.out z42 x6_1 p296 (by first | exact q296 | exact zP (by assumption) | (have e_ := (Kd.V_reads' HO_0.out).1; omega))
    obtain ⟨ua296_0, uc296_0, ua296_1, uc296_1, rfl, ul296_0, ge296_0, ul296_1, ge296_1⟩ := k42_openF hMe296
    have hv296_0 := hcc296 0 _ rfl
    rw [Nat.add_zero] at hv296_0
    replace hv296_0 := Option.some.inj (hv296_0.symm.trans hx296_0)
    injection hv296_0 with hva_ hvn_ hvc_
    rw [hva_] at ge296_0
    rw [hvc_] at ul296_0
    have HL296_0 := yD (show Kd.V (Kd.int .i64) 2 _ w.heap.size _ _ ((rd_T42 l0 x6_1).f0) from Kd.V_mk ul296_0 ge296_0)
    clear hva_ hvn_ hvc_ ge296_0 ul296_0
    have hv296_1 := hcc296 1 _ rfl
    rw [add_field _ _ 1 (by omega)] at hv296_1
    replace hv296_1 := Option.some.inj (hv296_1.symm.trans hx296_1)
    injection hv296_1 with hva_ hvn_ hvc_
    rw [hva_] at ge296_1
    rw [hvc_] at ul296_1
    have HL296_1 := yD (show Kd.V (Kd.int .i64) 2 _ w.heap.size _ _ ((rd_T42 l0 x6_1).f1) from Kd.V_mk ul296_1 ge296_1)
    clear hva_ hvn_ hvc_ ge296_1 ul296_1 hcc296 hce296
    replace p296 := eq_true p296; replace q296 := eq_true q296
    have p297 : 0 ≤ (0 : Int) := (by omega)
    have q297 : 0 < (((rd_T42 l0 x6_1).f0).length : Int) := zP (by assumption)
    obtain ⟨ad297, e297, hx297_0⟩ := Kd.at_int (by repeat (first | (with_reducible exact HR296_0.out) | (with_reducible first | refine yV ?_ _ | refine yW ?_ _ | refine yX ?_) | exact HR296_0.out)) 0 p297 q297
    cases e297
    have qi297 : (0 < ((rd_T42 l0 x6_1).f0).length) = True := eq_true (by omega)
    (try rw [show ((0 : Int)).toNat = 0 from rfl] at hx297_0)
    (try rw [Addr.add_zero'] at hx297_0)
    replace p297 := eq_true p297; replace q297 := eq_true q297
    have p298 : 0 ≤ (x6_1 : Int) := zP (by assumption)
    have q298 : x6_1 < (l0.length : Int) := zP (by assumption)
    obtain ⟨ad298, A298_0, c298_0, A298_1, c298_1, e298, hx298_0, hx298_1, HC298_0, HR298_0, HC298_1, HR298_1⟩ := at_T42 (Kd.V_reads' HO_0.out).2.2 x6_1 p298 q298
    obtain rfl : ad296 = ad298 := (by injection e298)
    obtain ⟨ce298, hce298, hMe298, hcc298⟩ := Kd.V_get HO_0.out z42 x6_1 p298 (by first | exact q298 | exact zP (by assumption) | (have e_ := (Kd.V_reads' HO_0.out).1; omega))
    obtain ⟨ua298_0, uc298_0, ua298_1, uc298_1, rfl, ul298_0, ge298_0, ul298_1, ge298_1⟩ := k42_openF hMe298
    have hv298_0 := hcc298 0 _ rfl
    rw [Nat.add_zero] at hv298_0
    replace hv298_0 := Option.some.inj (hv298_0.symm.trans hx298_0)
    injection hv298_0 with hva_ hvn_ hvc_
    rw [hva_] at ge298_0
    rw [hvc_] at ul298_0
    have HL298_0 := yD (show Kd.V (Kd.int .i64) 2 _ w.heap.size _ _ ((rd_T42 l0 x6_1).f0) from Kd.V_mk ul298_0 ge298_0)
    clear hva_ hvn_ hvc_ ge298_0 ul298_0
    have hv298_1 := hcc298 1 _ rfl
    rw [add_field _ _ 1 (by omega)] at hv298_1
    replace hv298_1 := Option.some.inj (hv298_1.symm.trans hx298_1)
    injection hv298_1 with hva_ hvn_ hvc_
    rw [hva_] at ge298_1
    rw [hvc_] at ul298_1
    have HL298_1 := yD (show Kd.V (Kd.int .i64) 2 _ w.heap.size _ _ ((rd_T42 l0 x6_1).f1) from Kd.V_mk ul298_1 ge298_1)
    clear hva_ hvn_ hvc_ ge298_1 ul298_1 hcc298 hce298
    replace p298 := eq_true p298; replace q298 := eq_true q298
    have ea_ := Option.some.inj (hx296_0.symm.trans hx298_0)
    injection ea_ with ea_ en_ ec_
    subst ea_; subst ec_; clear en_
    have ea_ := Option.some.inj (hx296_1.symm.trans hx298_1)
    injection ea_ with ea_ en_ ec_
    subst ea_; subst ec_; clear en_
    have p299 : 0 ≤ (0 : Int) := (by omega)
    have q299 : 0 < (((rd_T42 l0 x6_1).f1).length : Int) := zP (by assumption)
    obtain ⟨ad299, e299, hx299_0⟩ := Kd.at_int (by repeat (first | (with_reducible exact HR298_1.out) | (with_reducible first | refine yV ?_ _ | refine yW ?_ _ | refine yX ?_) | exact HR298_1.out)) 0 p299 q299
    cases e299
    have qi299 : (0 < ((rd_T42 l0 x6_1).f1).length) = True := eq_true (by omega)
    (try rw [show ((0 : Int)).toNat = 0 from rfl] at hx299_0)
    (try rw [Addr.add_zero'] at hx299_0)
    replace p299 := eq_true p299; replace q299 := eq_true q299
    refine s0 (m := 17) (S := fun w' => w'.cell? (ad296.add ((x6_1).toNat * 2)) = some (.slice (some ad297) ((rd_T42 l0 x6_1).f0).length c296_0) ∧ w'.cell? ⟨(ad296.add ((x6_1).toNat * 2)).block, (ad296.add ((x6_1).toNat * 2)).off + 1, none⟩ = some (.slice (some ad299) ((rd_T42 l0 x6_1).f1).length c296_1) ∧ w'.cell? ad297 = some (.int .i64 (rd ((rd_T42 l0 x6_1).f0) 0)) ∧ w'.cell? (ad296.add ((x6_1).toNat * 2)) = some (.slice (some ad297) ((rd_T42 l0 x6_1).f0).length c296_0) ∧ w'.cell? ⟨(ad296.add ((x6_1).toNat * 2)).block, (ad296.add ((x6_1).toNat * 2)).off + 1, none⟩ = some (.slice (some ad299) ((rd_T42 l0 x6_1).f1).length c296_1) ∧ w'.cell? ad299 = some (.int .i64 (rd ((rd_T42 l0 x6_1).f1) 0))) spec_l07Cross.tab5 spec_l07Cross.bits5 ⟨hx296_0, hx296_1, hx297_0, hx298_0, hx298_1, hx299_0⟩ fun hHeld HT_ HW_ => ?_
    generalize wr.drew = w19 at HO_0 HO_5 HB HL296_0 HL296_1 HL298_0 HL298_1 HR296_0 HR296_1 HR298_0 HR298_1 hx296_0 hx296_1 hx297_0 hx298_0 hx298_1 hx299_0 hHeld ⊢
    refine qa 17 0 1 ?_; refine qa 17 1 3 ?_; refine qa 17 2 7 ?_; refine qa 17 3 15 ?_; refine qa 17 4 31 ?_; refine qa 17 8 287 ?_; refine qa 17 9 799 ?_; refine qa 17 10 1823 ?_; refine qa 17 11 3871 ?_; refine qc 17 5 3903 hHeld ?_; refine qa 17 6 3967 ?_; refine qc 17 7 4095 hHeld ?_; refine qc 17 12 8191 hHeld ?_; refine qa 17 13 16383 ?_; refine qc 17 14 32767 hHeld ?_; refine qa 17 15 65535 ?_
    refine qo 17 16 131071 (some 30) fun K hK => ?_
    refine qg Try.func92 _ (dm (spec_l00In.calls a1 (rd ((rd_T42 l0 x6_1).f0) 0) (wrap64 ((rd ((rd_T42 l0 x6_1).f1) 0) - 1)) false _ A9.out) fun nd => ?_)
    refine hK.out _ _ ⟨hHeld.1, hHeld.2.1, hHeld.2.2.1, hHeld.2.2.2.1, hHeld.2.2.2.2.1, hHeld.2.2.2.2.2⟩ (fun hHeld => ?_)
    clear hK K
    refine nZ 30 ?_
    refine qd ?_
    try go_wp2
    go_roundg k1
    case measure => have := HK1.out; omega
    case rel => exact ⟨(x5_1), (wrap64 (x6_1 + 1)), kF, H', ⟨by have := HK1.out; omega⟩, ⟨kU HO_0⟩, ⟨kQ HO_5⟩, ⟨kR1 HB⟩⟩
   replace ⟨c11, H⟩ := sD H
   have c11b0 := eq_true c11
   have c11b1 : decide (1 ≤ (((rd_T42 l0 x6_1).f0).length : Int)) = true := zR c11; clear c11
   generalize hy302 : ((((rd_T42 l0 x6_1).f0).drop 1) : List Int) = y302 at H
   have Ny302 := yD hy302.symm
   clear hy302
   replace ⟨c12, H⟩ := sD H
   have c12b0 := eq_true c12
   have c12b1 : decide (1 ≤ (((rd_T42 l0 x6_1).f1).length : Int)) = true := zR c12; clear c12
   generalize hy308 : ((((rd_T42 l0 x6_1).f1).drop 1) : List Int) = y308 at H
   have Ny308 := yD hy308.symm
   clear hy308
   replace ⟨LMc13, H⟩ := sM H
   generalize hy313 : ((x5_1 ++ [(⟨y302, y308⟩ : S42)]) : List (S42)) = y313 at H
   have Ny313 := yD hy313.symm
   clear hy313
   have H' := yD H
   clear H
   try go_wp2
   replace HO_0 := yD (Kd.V_drew HO_0.out); replace HO_5 := yD (Kd.N_drew HO_5.out); replace HB := yD (yP HB.out)
   have p296 : 0 ≤ (x6_1 : Int) := zP (by assumption)
   have q296 : x6_1 < (l0.length : Int) := zP (by assumption)
   obtain ⟨ad296, A296_0, c296_0, A296_1, c296_1, e296, hx296_0, hx296_1, HC296_0, HR296_0, HC296_1, HR296_1⟩ := at_T42 (Kd.V_reads' HO_0.out).2.2 x6_1 p296 q296
   cases e296
   obtain ⟨ce296, hce296, hMe296, hcc296⟩ := Kd.V_get HO_0.out z42 x6_1 p296 (by first | exact q296 | exact zP (by assumption) | (have e_ := (Kd.V_reads' HO_0.out).1; omega))
   obtain ⟨ua296_0, uc296_0, ua296_1, uc296_1, rfl, ul296_0, ge296_0, ul296_1, ge296_1⟩ := k42_openF hMe296
   have hv296_0 := hcc296 0 _ rfl
   rw [Nat.add_zero] at hv296_0
   replace hv296_0 := Option.some.inj (hv296_0.symm.trans hx296_0)
   injection hv296_0 with hva_ hvn_ hvc_
   rw [hva_] at ge296_0
   rw [hvc_] at ul296_0
   have HL296_0 := yD (show Kd.V (Kd.int .i64) 2 _ w.heap.size _ _ ((rd_T42 l0 x6_1).f0) from Kd.V_mk ul296_0 ge296_0)
   clear hva_ hvn_ hvc_ ge296_0 ul296_0
   have hv296_1 := hcc296 1 _ rfl
   rw [add_field _ _ 1 (by omega)] at hv296_1
   replace hv296_1 := Option.some.inj (hv296_1.symm.trans hx296_1)
   injection hv296_1 with hva_ hvn_ hvc_
   rw [hva_] at ge296_1
   rw [hvc_] at ul296_1
   have HL296_1 := yD (show Kd.V (Kd.int .i64) 2 _ w.heap.size _ _ ((rd_T42 l0 x6_1).f1) from Kd.V_mk ul296_1 ge296_1)
   clear hva_ hvn_ hvc_ ge296_1 ul296_1 hcc296 hce296
   replace p296 := eq_true p296; replace q296 := eq_true q296
   have p297 : 0 ≤ (0 : Int) := (by omega)
   have q297 : 0 < (((rd_T42 l0 x6_1).f0).length : Int) := zP (by assumption)
   obtain ⟨ad297, e297, hx297_0⟩ := Kd.at_int (by repeat (first | (with_reducible exact HR296_0.out) | (with_reducible first | refine yV ?_ _ | refine yW ?_ _ | refine yX ?_) | exact HR296_0.out)) 0 p297 q297
   cases e297
   have qi297 : (0 < ((rd_T42 l0 x6_1).f0).length) = True := eq_true (by omega)
   (try rw [show ((0 : Int)).toNat = 0 from rfl] at hx297_0)
   (try rw [Addr.add_zero'] at hx297_0)
   replace p297 := eq_true p297; replace q297 := eq_true q297
   have p298 : 0 ≤ (x6_1 : Int) := zP (by assumption)
   have q298 : x6_1 < (l0.length : Int) := zP (by assumption)
   obtain ⟨ad298, A298_0, c298_0, A298_1, c298_1, e298, hx298_0, hx298_1, HC298_0, HR298_0, HC298_1, HR298_1⟩ := at_T42 (Kd.V_reads' HO_0.out).2.2 x6_1 p298 q298
   obtain rfl : ad296 = ad298 := (by injection e298)
   obtain ⟨ce298, hce298, hMe298, hcc298⟩ := Kd.V_get HO_0.out z42 x6_1 p298 (by first | exact q298 | exact zP (by assumption) | (have e_ := (Kd.V_reads' HO_0.out).1; omega))
   obtain ⟨ua298_0, uc298_0, ua298_1, uc298_1, rfl, ul298_0, ge298_0, ul298_1, ge298_1⟩ := k42_openF hMe298
   have hv298_0 := hcc298 0 _ rfl
   rw [Nat.add_zero] at hv298_0
   replace hv298_0 := Option.some.inj (hv298_0.symm.trans hx298_0)
   injection hv298_0 with hva_ hvn_ hvc_
   rw [hva_] at ge298_0
   rw [hvc_] at ul298_0
   have HL298_0 := yD (show Kd.V (Kd.int .i64) 2 _ w.heap.size _ _ ((rd_T42 l0 x6_1).f0) from Kd.V_mk ul298_0 ge298_0)
   clear hva_ hvn_ hvc_ ge298_0 ul298_0
   have hv298_1 := hcc298 1 _ rfl
   rw [add_field _ _ 1 (by omega)] at hv298_1
   replace hv298_1 := Option.some.inj (hv298_1.symm.trans hx298_1)
   injection hv298_1 with hva_ hvn_ hvc_
   rw [hva_] at ge298_1
   rw [hvc_] at ul298_1
   have HL298_1 := yD (show Kd.V (Kd.int .i64) 2 _ w.heap.size _ _ ((rd_T42 l0 x6_1).f1) from Kd.V_mk ul298_1 ge298_1)
   clear hva_ hvn_ hvc_ ge298_1 ul298_1 hcc298 hce298
   replace p298 := eq_true p298; replace q298 := eq_true q298
   have ea_ := Option.some.inj (hx296_0.symm.trans hx298_0)
   injection ea_ with ea_ en_ ec_
   subst ea_; subst ec_; clear en_
   have ea_ := Option.some.inj (hx296_1.symm.trans hx298_1)
   injection ea_ with ea_ en_ ec_
   subst ea_; subst ec_; clear en_
   have p299 : 0 ≤ (0 : Int) := (by omega)
   have q299 : 0 < (((rd_T42 l0 x6_1).f1).length : Int) := zP (by assumption)
   obtain ⟨ad299, e299, hx299_0⟩ := Kd.at_int (by repeat (first | (with_reducible exact HR298_1.out) | (with_reducible first | refine yV ?_ _ | refine yW ?_ _ | refine yX ?_) | exact HR298_1.out)) 0 p299 q299
   cases e299
   have qi299 : (0 < ((rd_T42 l0 x6_1).f1).length) = True := eq_true (by omega)
   (try rw [show ((0 : Int)).toNat = 0 from rfl] at hx299_0)
   (try rw [Addr.add_zero'] at hx299_0)
   replace p299 := eq_true p299; replace q299 := eq_true q299
   refine s0 (m := 17) (S := fun w' => w'.cell? (ad296.add ((x6_1).toNat * 2)) = some (.slice (some ad297) ((rd_T42 l0 x6_1).f0).length c296_0) ∧ w'.cell? ⟨(ad296.add ((x6_1).toNat * 2)).block, (ad296.add ((x6_1).toNat * 2)).off + 1, none⟩ = some (.slice (some ad299) ((rd_T42 l0 x6_1).f1).length c296_1) ∧ w'.cell? ad297 = some (.int .i64 (rd ((rd_T42 l0 x6_1).f0) 0)) ∧ w'.cell? (ad296.add ((x6_1).toNat * 2)) = some (.slice (some ad297) ((rd_T42 l0 x6_1).f0).length c296_0) ∧ w'.cell? ⟨(ad296.add ((x6_1).toNat * 2)).block, (ad296.add ((x6_1).toNat * 2)).off + 1, none⟩ = some (.slice (some ad299) ((rd_T42 l0 x6_1).f1).length c296_1) ∧ w'.cell? ad299 = some (.int .i64 (rd ((rd_T42 l0 x6_1).f1) 0))) spec_l07Cross.tab5 spec_l07Cross.bits5 ⟨hx296_0, hx296_1, hx297_0, hx298_0, hx298_1, hx299_0⟩ fun hHeld HT_ HW_ => ?_
   generalize wr.drew = w14 at HO_0 HO_5 HB HL296_0 HL296_1 HL298_0 HL298_1 HR296_0 HR296_1 HR298_0 HR298_1 hx296_0 hx296_1 hx297_0 hx298_0 hx298_1 hx299_0 hHeld ⊢
   refine qa 17 0 1 ?_; refine qa 17 1 3 ?_; refine qa 17 2 7 ?_; refine qa 17 3 15 ?_; refine qa 17 4 31 ?_; refine qa 17 8 287 ?_; refine qa 17 9 799 ?_; refine qa 17 10 1823 ?_; refine qa 17 11 3871 ?_; refine qc 17 5 3903 hHeld ?_; refine qa 17 6 3967 ?_; refine qc 17 7 4095 hHeld ?_; refine qc 17 12 8191 hHeld ?_; refine qa 17 13 16383 ?_; refine qc 17 14 32767 hHeld ?_; refine qa 17 15 65535 ?_
   refine qo 17 16 131071 (some 30) fun K hK => ?_
   refine qg Try.func92 _ (dm (spec_l00In.calls a1 (rd ((rd_T42 l0 x6_1).f0) 0) (wrap64 ((rd ((rd_T42 l0 x6_1).f1) 0) - 1)) true _ A9.out) fun nd => ?_)
   refine hK.out _ _ ⟨hHeld.1, hHeld.2.1, hHeld.2.2.1, hHeld.2.2.2.1, hHeld.2.2.2.2.1, hHeld.2.2.2.2.2⟩ (fun hHeld => ?_)
   clear hK K
   refine nZ 30 ?_
   refine qd ?_
   try go_wp2
   (try (rw [drewN_self w14]; generalize hq_ : World.drewN w14 _ = w14; have n0_ : Aside0 (Kd.V (Kd.int .i64) 2 w14 w.heap.size (fun k_ => (P0_ k_ ∨ w.heap.size ≤ k_) ∧ oB u5 k_) (.slice (some ad297) ((rd_T42 l0 x6_1).f0).length c296_0) ((rd_T42 l0 x6_1).f0)) := ⟨by rw [← hq_]; exact (kU HL296_0)⟩; have n1_ : Aside0 (Kd.V (Kd.int .i64) 2 w14 w.heap.size (fun k_ => (P0_ k_ ∨ w.heap.size ≤ k_) ∧ oB u5 k_) (.slice (some ad299) ((rd_T42 l0 x6_1).f1).length c296_1) ((rd_T42 l0 x6_1).f1)) := ⟨by rw [← hq_]; exact (kU HL296_1)⟩; have n2_ : Aside0 (Kd.V (Kd.int .i64) 2 w14 w.heap.size (fun k_ => (P0_ k_ ∨ w.heap.size ≤ k_) ∧ oB u5 k_) (.slice (some ad297) ((rd_T42 l0 x6_1).f0).length c296_0) ((rd_T42 l0 x6_1).f0)) := ⟨by rw [← hq_]; exact (kU HL298_0)⟩; have n3_ : Aside0 (Kd.V (Kd.int .i64) 2 w14 w.heap.size (fun k_ => (P0_ k_ ∨ w.heap.size ≤ k_) ∧ oB u5 k_) (.slice (some ad299) ((rd_T42 l0 x6_1).f1).length c296_1) ((rd_T42 l0 x6_1).f1)) := ⟨by rw [← hq_]; exact (kU HL298_1)⟩; have n4_ : Aside0 (Kd.V k42 42 w14 w.heap.size (fun k_ => (P0_ k_ ∨ w.heap.size ≤ k_) ∧ oB u5 k_) (.slice (some ad296) l0.length c0) l0) := ⟨by rw [← hq_]; exact (kU HO_0)⟩; have n5_ : Aside0 (Kd.N k42 42 w14 w.heap.size (fun k_ => (P0_ k_ ∨ w.heap.size ≤ k_)) u5 x5_1) := ⟨by rw [← hq_]; exact (kQ HO_5)⟩; have n6_ : Aside0 (Below w.heap.size w w14) := ⟨by rw [← hq_]; exact (kB HB)⟩; have n7_ : Aside0 (Kd.C (Kd.int .i64) w14 (some ad297) ((rd_T42 l0 x6_1).f0).length ((rd_T42 l0 x6_1).f0)) := ⟨by rw [← hq_]; exact (by repeat (first | (with_reducible exact HR296_0.out) | (with_reducible first | refine yV ?_ _ | refine yW ?_ _ | refine yX ?_) | exact HR296_0.out))⟩; have n8_ : Aside0 (Kd.C (Kd.int .i64) w14 (some ad299) ((rd_T42 l0 x6_1).f1).length ((rd_T42 l0 x6_1).f1)) := ⟨by rw [← hq_]; exact (by repeat (first | (with_reducible exact HR296_1.out) | (with_reducible first | refine yV ?_ _ | refine yW ?_ _ | refine yX ?_) | exact HR296_1.out))⟩; have n9_ : Aside0 (Kd.C (Kd.int .i64) w14 (some ad297) ((rd_T42 l0 x6_1).f0).length ((rd_T42 l0 x6_1).f0)) := ⟨by rw [← hq_]; exact (by repeat (first | (with_reducible exact HR298_0.out) | (with_reducible first | refine yV ?_ _ | refine yW ?_ _ | refine yX ?_) | exact HR298_0.out))⟩; have n10_ : Aside0 (Kd.C (Kd.int .i64) w14 (some ad299) ((rd_T42 l0 x6_1).f1).length ((rd_T42 l0 x6_1).f1)) := ⟨by rw [← hq_]; exact (by repeat (first | (with_reducible exact HR298_1.out) | (with_reducible first | refine yV ?_ _ | refine yW ?_ _ | refine yX ?_) | exact HR298_1.out))⟩; clear HL296_0 HL296_1 HL298_0 HL298_1 HO_0 HO_5 HB HR296_0 HR296_1 HR298_0 HR298_1 hq_; have HL296_0 := n0_; have HL296_1 := n1_; have HL298_0 := n2_; have HL298_1 := n3_; have HO_0 := n4_; have HO_5 := n5_; have HB := n6_; have HR296_0 := n7_; have HR296_1 := n8_; have HR298_0 := n9_; have HR298_1 := n10_; clear n0_ n1_ n2_ n3_ n4_ n5_ n6_ n7_ n8_ n9_ n10_))
   replace HO_0 := yD (Kd.V_drew HO_0.out); replace HO_5 := yD (Kd.N_drew HO_5.out); replace HL296_0 := yD (Kd.V_drew HL296_0.out); replace HL296_1 := yD (Kd.V_drew HL296_1.out); replace HL298_0 := yD (Kd.V_drew HL298_0.out); replace HL298_1 := yD (Kd.V_drew HL298_1.out); replace HR296_0 := yD (yX HR296_0.out); replace HR296_1 := yD (yX HR296_1.out); replace HR298_0 := yD (yX HR298_0.out); replace HR298_1 := yD (yX HR298_1.out); replace HB := yD (yP HB.out)
   have p301 : 0 ≤ (x6_1 : Int) := zP (by assumption)
   have q301 : x6_1 < (l0.length : Int) := zP (by assumption)
   obtain ⟨ad301, A301_0, c301_0, A301_1, c301_1, e301, hx301_0, hx301_1, HC301_0, HR301_0, HC301_1, HR301_1⟩ := at_T42 (Kd.V_reads' HO_0.out).2.2 x6_1 p301 q301
   obtain rfl : ad296 = ad301 := (by injection e301)
   obtain ⟨ce301, hce301, hMe301, hcc301⟩ := Kd.V_get HO_0.out z42 x6_1 p301 (by first | exact q301 | exact zP (by assumption) | (have e_ := (Kd.V_reads' HO_0.out).1; omega))
   obtain ⟨ua301_0, uc301_0, ua301_1, uc301_1, rfl, ul301_0, ge301_0, ul301_1, ge301_1⟩ := k42_openF hMe301
   have hv301_0 := hcc301 0 _ rfl
   rw [Nat.add_zero] at hv301_0
   replace hv301_0 := Option.some.inj (hv301_0.symm.trans hx301_0)
   injection hv301_0 with hva_ hvn_ hvc_
   rw [hva_] at ge301_0
   rw [hvc_] at ul301_0
   have HL301_0 := yD (show Kd.V (Kd.int .i64) 2 _ w.heap.size _ _ ((rd_T42 l0 x6_1).f0) from Kd.V_mk ul301_0 ge301_0)
   clear hva_ hvn_ hvc_ ge301_0 ul301_0
   have hv301_1 := hcc301 1 _ rfl
   rw [add_field _ _ 1 (by omega)] at hv301_1
   replace hv301_1 := Option.some.inj (hv301_1.symm.trans hx301_1)
   injection hv301_1 with hva_ hvn_ hvc_
   rw [hva_] at ge301_1
   rw [hvc_] at ul301_1
   have HL301_1 := yD (show Kd.V (Kd.int .i64) 2 _ w.heap.size _ _ ((rd_T42 l0 x6_1).f1) from Kd.V_mk ul301_1 ge301_1)
   clear hva_ hvn_ hvc_ ge301_1 ul301_1 hcc301 hce301
   replace p301 := eq_true p301; replace q301 := eq_true q301
   have q16 : (1 : Int) ≤ ((((rd_T42 l0 x6_1).f0).length : Int) : Int) := zP (by assumption)
   obtain ⟨i016, hi016, _, hsz16, _⟩ := info_parts info2
   have hroom16 : ((rd_T42 l0 x6_1).f0).length ≤ c301_0 := HC301_0.out
   have hC16 : Kd.F (Kd.int .i64) _ _ A301_0 ((rd_T42 l0 x6_1).f0).length ((rd_T42 l0 x6_1).f0) := (Kd.V_at (base := w.heap.size) HL301_0.out).2.2
   have hcut16 := cut_from (P := Try.prog) 36 2 .i64 Try.underlying36 hi016 1 hsz16 A301_0 ((rd_T42 l0 x6_1).f0).length c301_0 1 (by omega) q16
   have hr16 := Kd.F_cut (m := (1 : Int).toNat) (c := c301_0) hC16 (by omega) hroom16
   obtain ⟨A16, hA16⟩ : ∃ A1, A1 = (if c301_0 = (1 : Int).toNat then A301_0 else (A301_0 : Option Addr).map (·.add ((1 : Int).toNat * 1))) := ⟨_, rfl⟩
   obtain ⟨c16, hc16⟩ : ∃ c1, c1 = c301_0 - (1 : Int).toNat := ⟨_, rfl⟩
   have hy16 : y302.length = ((rd_T42 l0 x6_1).f0).length - (1 : Int).toNat := (by rw [Ny302.out, zN] <;> omega)
   rw [show ((rd_T42 l0 x6_1).f0).drop (1 : Int).toNat = y302 from Ny302.out.symm] at hr16
   replace hr16 : Kd.F (Kd.int .i64) _ _ A16 y302.length y302 := (by rw [hA16]; exact hr16)
   rw [← hy16, ← hA16, ← hc16] at hcut16
   have HO306 := yD (show Kd.V (Kd.int .i64) 2 _ w.heap.size _ (.slice A16 y302.length c16) y302 from Kd.V_mk (by rw [hy16, hc16]; exact Nat.sub_le_sub_right hroom16 _) hr16)
   have HC306 := yD (show y302.length ≤ c16 from by rw [hy16, hc16]; exact Nat.sub_le_sub_right hroom16 _)
   clear hr16 hC16 hroom16 hi016 hsz16 hc16
   have KY16 := yD hy16
   have KA16 := yD hA16
   clear hy16 hA16; replace q16 := eq_true q16
   have p307 : 0 ≤ (x6_1 : Int) := zP (by assumption)
   have q307 : x6_1 < (l0.length : Int) := zP (by assumption)
   obtain ⟨ad307, A307_0, c307_0, A307_1, c307_1, e307, hx307_0, hx307_1, HC307_0, HR307_0, HC307_1, HR307_1⟩ := at_T42 (Kd.V_reads' HO_0.out).2.2 x6_1 p307 q307
   obtain rfl : ad296 = ad307 := (by injection e307)
   obtain ⟨ce307, hce307, hMe307, hcc307⟩ := Kd.V_get HO_0.out z42 x6_1 p307 (by first | exact q307 | exact zP (by assumption) | (have e_ := (Kd.V_reads' HO_0.out).1; omega))
   obtain ⟨ua307_0, uc307_0, ua307_1, uc307_1, rfl, ul307_0, ge307_0, ul307_1, ge307_1⟩ := k42_openF hMe307
   have hv307_0 := hcc307 0 _ rfl
   rw [Nat.add_zero] at hv307_0
   replace hv307_0 := Option.some.inj (hv307_0.symm.trans hx307_0)
   injection hv307_0 with hva_ hvn_ hvc_
   rw [hva_] at ge307_0
   rw [hvc_] at ul307_0
   have HL307_0 := yD (show Kd.V (Kd.int .i64) 2 _ w.heap.size _ _ ((rd_T42 l0 x6_1).f0) from Kd.V_mk ul307_0 ge307_0)
   clear hva_ hvn_ hvc_ ge307_0 ul307_0
   have hv307_1 := hcc307 1 _ rfl
   rw [add_field _ _ 1 (by omega)] at hv307_1
   replace hv307_1 := Option.some.inj (hv307_1.symm.trans hx307_1)
   injection hv307_1 with hva_ hvn_ hvc_
   rw [hva_] at ge307_1
   rw [hvc_] at ul307_1
   have HL307_1 := yD (show Kd.V (Kd.int .i64) 2 _ w.heap.size _ _ ((rd_T42 l0 x6_1).f1) from Kd.V_mk ul307_1 ge307_1)
   clear hva_ hvn_ hvc_ ge307_1 ul307_1 hcc307 hce307
   replace p307 := eq_true p307; replace q307 := eq_true q307
   have ea_ := Option.some.inj (hx301_0.symm.trans hx307_0)
   injection ea_ with ea_ en_ ec_
   subst ea_; subst ec_; clear en_
   have ea_ := Option.some.inj (hx301_1.symm.trans hx307_1)
   injection ea_ with ea_ en_ ec_
   subst ea_; subst ec_; clear en_
   have q17 : (1 : Int) ≤ ((((rd_T42 l0 x6_1).f1).length : Int) : Int) := zP (by assumption)
   obtain ⟨i017, hi017, _, hsz17, _⟩ := info_parts info2
   have hroom17 : ((rd_T42 l0 x6_1).f1).length ≤ c301_1 := HC307_1.out
   have hC17 : Kd.F (Kd.int .i64) _ _ A301_1 ((rd_T42 l0 x6_1).f1).length ((rd_T42 l0 x6_1).f1) := (Kd.V_at (base := w.heap.size) HL307_1.out).2.2
   have hcut17 := cut_from (P := Try.prog) 36 2 .i64 Try.underlying36 hi017 1 hsz17 A301_1 ((rd_T42 l0 x6_1).f1).length c301_1 1 (by omega) q17
   have hr17 := Kd.F_cut (m := (1 : Int).toNat) (c := c301_1) hC17 (by omega) hroom17
   obtain ⟨A17, hA17⟩ : ∃ A1, A1 = (if c301_1 = (1 : Int).toNat then A301_1 else (A301_1 : Option Addr).map (·.add ((1 : Int).toNat * 1))) := ⟨_, rfl⟩
   obtain ⟨c17, hc17⟩ : ∃ c1, c1 = c301_1 - (1 : Int).toNat := ⟨_, rfl⟩
   have hy17 : y308.length = ((rd_T42 l0 x6_1).f1).length - (1 : Int).toNat := (by rw [Ny308.out, zN] <;> omega)
   rw [show ((rd_T42 l0 x6_1).f1).drop (1 : Int).toNat = y308 from Ny308.out.symm] at hr17
   replace hr17 : Kd.F (Kd.int .i64) _ _ A17 y308.length y308 := (by rw [hA17]; exact hr17)
   rw [← hy17, ← hA17, ← hc17] at hcut17
   have HO312 := yD (show Kd.V (Kd.int .i64) 2 _ w.heap.size _ (.slice A17 y308.length c17) y308 from Kd.V_mk (by rw [hy17, hc17]; exact Nat.sub_le_sub_right hroom17 _) hr17)
   have HC312 := yD (show y308.length ≤ c17 from by rw [hy17, hc17]; exact Nat.sub_le_sub_right hroom17 _)
   clear hr17 hC17 hroom17 hi017 hsz17 hc17
   have KY17 := yD hy17
   have KA17 := yD hA17
   clear hy17 hA17; replace q17 := eq_true q17
   refine start_ (n := 17) (S := fun w' => w'.cell? (ad296.add ((x6_1).toNat * 2)) = some (.slice A301_0 ((rd_T42 l0 x6_1).f0).length c301_0) ∧ w'.cell? ⟨(ad296.add ((x6_1).toNat * 2)).block, (ad296.add ((x6_1).toNat * 2)).off + 1, none⟩ = some (.slice A301_1 ((rd_T42 l0 x6_1).f1).length c301_1) ∧ w'.cell? (ad296.add ((x6_1).toNat * 2)) = some (.slice A301_0 ((rd_T42 l0 x6_1).f0).length c301_0) ∧ w'.cell? ⟨(ad296.add ((x6_1).toNat * 2)).block, (ad296.add ((x6_1).toNat * 2)).off + 1, none⟩ = some (.slice A301_1 ((rd_T42 l0 x6_1).f1).length c301_1)) (ds := [14, 15]) (bz 17 0) (by kernel_rfl) rfl rfl ⟨hx301_0, hx301_1, hx307_0, hx307_1⟩ (fun hHeld => ?_); refine with_tabW spec_l07Cross.tab6 spec_l07Cross.bits6 (fun HT_ HW_ => ?_)
   generalize w14.drew = w15 at HO_0 HO_5 HL296_0 HL296_1 HL298_0 HL298_1 HR296_0 HR296_1 HR298_0 HR298_1 HB HL301_0 HL301_1 HL307_0 HL307_1 HO306 HO312 HR301_0 HR301_1 HR307_0 HR307_1 hx301_0 hx301_1 hx307_0 hx307_1 hHeld ⊢
   refine qa 17 0 1 ?_; refine qa 17 1 3 ?_; refine qa 17 2 7 ?_; refine qa 17 3 15 ?_; refine qa 17 4 31 ?_; refine qa 17 7 159 ?_; refine qa 17 8 415 ?_; refine qa 17 9 927 ?_; refine qa 17 10 1951 ?_; refine qc 17 5 1983 hHeld ?_; refine qa 17 6 2047 ?_; refine qc 17 11 4095 hHeld ?_; refine qa 17 12 8191 ?_; refine qa 17 13 16383 ?_
   refine last_ (i := 14) (N := some 45) #[true, true, true, true, true, true, true, true, true, true, true, true, true, true, true, false, false] rfl rfl (one_of HT_.out (by kernel_rfl)) (by decide) (fun K hK => ?_)
   refine value_ (w1 := ?_) (v := ?_) (by rfl) rfl ?_ ?_
   rotate_left 2
   · go_simp
     constructor
     · rfl
     · rfl
   refine hK.out _ _ ?_
   clear hK K
   refine nZ 45 ?_
   refine last_ (i := 15) (N := some 46) #[true, true, true, true, true, true, true, true, true, true, true, true, true, true, true, true, false] rfl rfl (one_of HT_.out (by kernel_rfl)) (by decide) (fun K hK => ?_)
   refine Kd.N_append_step k42 (w0 := w) w.heap.size (by rfl) (.tmp 31) (.tmp 45) 24 42 (.agg #[(.slice none 0 0), (.slice none 0 0)]) 48 rfl Try.underlying24 info42 rfl (by decide) (by omega) u5 x5_1 (⟨y302, y308⟩ : S42) [.slice A16 y302.length c16, .slice A17 y308.length c17] (fun k_ => (P0_ k_ ∨ w.heap.size ≤ k_)) (fun k_ => ((fun k_ => (P0_ k_ ∨ w.heap.size ≤ k_))) k_ ∧ oB u5 k_) rfl rfl ?aP (fun _ hk => hk) ?aF ?aO ?aB ?aS ?aL ?_
   (case aP => exact (k42_mkF _ _ (⟨y302, y308⟩ : S42) (Kd.V_reads' (Kd.V_mono (ok' := (fun k_ => ((fun k_ => (P0_ k_ ∨ w.heap.size ≤ k_))) k_ ∧ oB u5 k_)) (HO306.out) (fun k_ hk => ⟨hk.1, hk.2⟩))).2.1 (Kd.V_F (Kd.V_mono (ok' := (fun k_ => ((fun k_ => (P0_ k_ ∨ w.heap.size ≤ k_))) k_ ∧ oB u5 k_)) (HO306.out) (fun k_ hk => ⟨hk.1, hk.2⟩))) (Kd.V_reads' (Kd.V_mono (ok' := (fun k_ => ((fun k_ => (P0_ k_ ∨ w.heap.size ≤ k_))) k_ ∧ oB u5 k_)) (HO312.out) (fun k_ hk => ⟨hk.1, hk.2⟩))).2.1 (Kd.V_F (Kd.V_mono (ok' := (fun k_ => ((fun k_ => (P0_ k_ ∨ w.heap.size ≤ k_))) k_ ∧ oB u5 k_)) (HO312.out) (fun k_ hk => ⟨hk.1, hk.2⟩)))))
   (case aB => exact (kB HB))
   (case aF => exact (fun k_ hk => (.inr (Nat.le_trans (below_size (kB HB)) hk))))
   (case aO => exact (kQ HO_5))
   (case aS => exact (below_size (kB HB)))
   (case aL => have := LMc13.out; omega)
   intro v314 w18 ho hb hg hat
   rw [← Ny313.out] at ho
   have n0_ := yD (Kd.V_afterv (ok := (fun k_ => (P0_ k_ ∨ w.heap.size ≤ k_))) (kU HO_0) hg hat)
   have n1_ := yD (Kd.V_afterv (ok := (fun k_ => (P0_ k_ ∨ w.heap.size ≤ k_))) (kU HL296_0) hg hat)
   have n2_ := yD (Kd.V_afterv (ok := (fun k_ => (P0_ k_ ∨ w.heap.size ≤ k_))) (kU HL296_1) hg hat)
   have n3_ := yD (Kd.V_afterv (ok := (fun k_ => (P0_ k_ ∨ w.heap.size ≤ k_))) (kU HL298_0) hg hat)
   have n4_ := yD (Kd.V_afterv (ok := (fun k_ => (P0_ k_ ∨ w.heap.size ≤ k_))) (kU HL298_1) hg hat)
   have n5_ := yD (Kd.V_afterv (ok := (fun k_ => (P0_ k_ ∨ w.heap.size ≤ k_))) (kU HL301_0) hg hat)
   have n6_ := yD (Kd.V_afterv (ok := (fun k_ => (P0_ k_ ∨ w.heap.size ≤ k_))) (kU HL301_1) hg hat)
   have n7_ := yD (Kd.V_afterv (ok := (fun k_ => (P0_ k_ ∨ w.heap.size ≤ k_))) (kU HO306) hg hat)
   have n8_ := yD (Kd.V_afterv (ok := (fun k_ => (P0_ k_ ∨ w.heap.size ≤ k_))) (kU HL307_0) hg hat)
   have n9_ := yD (Kd.V_afterv (ok := (fun k_ => (P0_ k_ ∨ w.heap.size ≤ k_))) (kU HL307_1) hg hat)
   have n10_ := yD (Kd.V_afterv (ok := (fun k_ => (P0_ k_ ∨ w.heap.size ≤ k_))) (kU HO312) hg hat)
   have n11_ := yD (hb)
   have n12_ := yD (ho)
   clear HO_0 HL296_0 HL296_1 HL298_0 HL298_1 HL301_0 HL301_1 HO306 HL307_0 HL307_1 HO312 HB HO_5; have HO_0 := n0_; have HL296_0 := n1_; have HL296_1 := n2_; have HL298_0 := n3_; have HL298_1 := n4_; have HL301_0 := n5_; have HL301_1 := n6_; have HO306 := n7_; have HL307_0 := n8_; have HL307_1 := n9_; have HO312 := n10_; have HB := n11_; have HO315 := n12_; clear n0_ n1_ n2_ n3_ n4_ n5_ n6_ n7_ n8_ n9_ n10_ n11_ n12_ ho hb hg hat
   refine hK.out _ _ ?_
   clear hK K
   refine nZ 46 ?_
   refine qa 17 16 131071 ?_
   refine qd ?_
   try go_wp2
   go_roundg k1
   case measure => have := HK1.out; omega
   case rel => exact ⟨(y313), (wrap64 (x6_1 + 1)), kF, H', ⟨by have := HK1.out; omega⟩, ⟨kU HO_0⟩, ⟨kQ HO315⟩, ⟨kR1 HB⟩⟩
end Go.Proofs.Ytdiaebjbiddefaa.PFnExactBoxesOf
