/- Each function here comes to its plain form. It holds without a condition. -/
import Derived.Test.YtdiaebjbiddefaaPFnExactBoxesOfx0
import Derived.Test.YtdiaebjbiddefaaPFnExactBoxesOfx2
namespace Go.Proofs.Ytdiaebjbiddefaa.PFnExactBoxesOf
open Go.RowKit Go.Proofs.YtdiaebjbiddefaaW.PrintWords Go.Proofs.YtdiaebjbiddefaaW.PrintLast Go.Proofs.YtdiaebjbiddefaaW.PrintMore
attribute [local go_sem] max2_int min2_int max_two min_two max_three min_three max_four min_four   -- for this text's walks alone
set_option linter.unusedVariables false
set_option linter.unusedSimpArgs false
set_option maxHeartbeats 8000000
set_option maxRecDepth 100000

/-! ### spec_l00Same: function 160 -/
def spec_l00Same.l0 : Nat → List Int → List Int → Int → Option (Bool)
 | 0, _, _, _ => none
 | k + 1, x0, x1, x5 => if x5 < (x0.length : Int) then (if 0 ≤ x5 then (if x5 < (x1.length : Int) then (if (rd x0 x5) = (rd x1 x5) then (spec_l00Same.l0 k x0 x1 (wrap64 (x5 + 1))) else (some false)) else (none)) else (none)) else (some true)
def spec_l00Same.f (k : Nat) (l0 : List Int) (l1 : List Int) : Option (Bool) := if (l0.length : Int) = (l1.length : Int) then (spec_l00Same.l0 k l0 l1 0) else (some false)
theorem spec_l00Same.calls (k : Nat) (A0 : Option Addr) (c0 : Nat) (l0 : List Int) (A1 : Option Addr) (c1 : Nat) (l1 : List Int) (r : Bool) (w : World) (C0 : Cm (Kd.int .i64) w A0 c0 l0) (C1 : Cm (Kd.int .i64) w A1 c1 l1) (h : spec_l00Same.f k l0 l1 = some r) :
 Calls Try.prog 160 #[.slice A0 l0.length c0, .slice A1 l1.length c1] w fun e w' => e = .returned (.bool r) ∧ Drawn0 w w' := by
 have H : (if (l0.length : Int) = (l1.length : Int) then (spec_l00Same.l0 k l0 l1 0) else (some false)) = some r := h
 clear h
 replace H := sP H; rcases H with ⟨c3, c3b0, c3b1, H⟩ | ⟨c3, c3b0, c3b1, H⟩
 ·
  have c3b2 : (l0.length == l1.length) = false := by first | simpa using c3 | (simp at c3 ⊢; omega)
  obtain rfl := sJ H; go_enter Try.func160, Try.ntmps160
  go_wp2
  repeat (go_quiet (fail); try go_wp2)
  go_ret
  exact ⟨by first | rfl | (simp; done) | (simp [*]; done), by repeat (first | exact Drawn0.refl _ | apply Drawn0.step)⟩
 have c3b2 : (l0.length == l1.length) = true := by first | simpa using c3 | (simp at c3 ⊢; omega)
 clear c3
 have H' := yD H
 clear H; go_enter Try.func160, Try.ntmps160
 go_wp2
 repeat (go_quiet (fail); try go_wp2)
 go_loopg [5] k (fun kq v5 w' => ∃ (x5_1 : Int), v5 = .int .i64 x5_1 ∧ Aside0 (spec_l00Same.l0 kq l0 l1 x5_1 = some r) ∧ Aside0 (kq ≤ k) ∧ Drawn0 w w')
 case atStart => exact ⟨(0), kF, H', ⟨Nat.le_refl _⟩, by repeat (first | exact Drawn0.refl _ | apply Drawn0.step)⟩
 case round =>
  clear H'
  obtain ⟨x5_1, rfl, HA, HK1, ⟨m1, rfl⟩⟩ := hrel
  cases gk with
  | zero => exact absurd HA.out (by simp [spec_l00Same.l0])
  | succ k1 =>
   have H := HA.out; clear HA
   simp only [spec_l00Same.l0] at H
   replace H := sG H; rcases H with ⟨c4b0, H⟩ | ⟨c4b0, H⟩
   ·
    obtain rfl := sJ H
    go_wp2
    repeat (go_quiet (fail); try go_wp2)
    go_ret
    exact ⟨by first | rfl | (simp; done) | (simp [*]; done), by repeat (first | exact Drawn0.refl _ | apply Drawn0.step)⟩
   replace ⟨c5b0, H⟩ := sE H
   replace ⟨c6b0, H⟩ := sE H
   replace H := sP H; rcases H with ⟨c7, c7b0, c7b1, H⟩ | ⟨-, c7b0, c7b1, H⟩
   ·
    obtain rfl := sJ H
    obtain ⟨p316, q316, ad316, e316, hx316_0⟩ := sI (Kd.at_int C0.r x5_1)
    cases e316
    obtain ⟨p317, q317, ad317, e317, hx317_0⟩ := sI (Kd.at_int C1.r x5_1)
    cases e317
    go_wp2
    repeat (go_quiet (fail); try go_wp2)
    go_ret
    exact ⟨by first | rfl | (simp; done) | (simp [*]; done), by repeat (first | exact Drawn0.refl _ | apply Drawn0.step)⟩
   have H' := yD H
   clear H
   obtain ⟨p316, q316, ad316, e316, hx316_0⟩ := sI (Kd.at_int C0.r x5_1)
   cases e316
   obtain ⟨p317, q317, ad317, e317, hx317_0⟩ := sI (Kd.at_int C1.r x5_1)
   cases e317
   go_wp2
   repeat (go_quiet (fail); try go_wp2)
   go_roundg k1
   case measure => have := HK1.out; omega
   case rel => exact ⟨(wrap64 (x5_1 + 1)), kF, H', ⟨by have := HK1.out; omega⟩, by repeat (first | exact Drawn0.refl _ | apply Drawn0.step)⟩

/-! ### spec_l07SameBox: function 149 -/
def spec_l07SameBox.f (k : Nat) (l0_0 : List Int) (l0_1 : List Int) (l1_0 : List Int) (l1_1 : List Int) : Option (Bool) := (spec_l00Same.f k l0_0 l1_0).bind fun t320 => (if t320 = true then ((spec_l00Same.f k l0_1 l1_1).bind fun t321 => (some t321)) else (some false))
theorem spec_l07SameBox.calls (k : Nat) (A0_0 : Option Addr) (c0_0 : Nat) (l0_0 : List Int) (A0_1 : Option Addr) (c0_1 : Nat) (l0_1 : List Int) (A1_0 : Option Addr) (c1_0 : Nat) (l1_0 : List Int) (A1_1 : Option Addr) (c1_1 : Nat) (l1_1 : List Int) (r : Bool) (w : World) (C0_0 : Cm (Kd.int .i64) w A0_0 c0_0 l0_0) (C0_1 : Cm (Kd.int .i64) w A0_1 c0_1 l0_1) (C1_0 : Cm (Kd.int .i64) w A1_0 c1_0 l1_0) (C1_1 : Cm (Kd.int .i64) w A1_1 c1_1 l1_1) (h : spec_l07SameBox.f k l0_0 l0_1 l1_0 l1_1 = some r) :
 Calls Try.prog 149 #[.agg #[.slice A0_0 l0_0.length c0_0, .slice A0_1 l0_1.length c0_1], .agg #[.slice A1_0 l1_0.length c1_0, .slice A1_1 l1_1.length c1_1]] w fun e w' => e = .returned (.bool r) ∧ Below w.heap.size w w' := by
 have hu42 := Try.underlying42
 have HB := yD (Below.refl w.heap.size w)
 have H : ((spec_l00Same.f k l0_0 l1_0).bind fun t320 => (if t320 = true then ((spec_l00Same.f k l0_1 l1_1).bind fun t321 => (some t321)) else (some false))) = some r := h
 clear h
 replace ⟨t320, A3, H⟩ := sV H
 replace H := sS H; rcases H with ⟨rfl, H⟩ | ⟨rfl, H⟩
 ·
  obtain rfl := sJ H; go_enter Try.func149, Try.ntmps149
  go_wp2_with (first | ((with_reducible refine gate_dst (N := 2) rfl ?_); refine bF (N := 2) (cs := #[.slice A0_0 l0_0.length c0_0, .slice A0_1 l0_1.length c0_1]) (t := 42) HB ?_; intro gb318 w11 BK318 GW318 HB) | ((with_reducible refine gate_dst (N := 3) rfl ?_); refine bE (N := 3) (cs := #[.slice A1_0 l1_0.length c1_0, .slice A1_1 l1_1.length c1_1]) (t := 42) ?_; intro gb319 hg w12 hbox hb; have BK319 := yD (hbox); have GW319 := sW hg HB; replace HB := zX HB hb; have NB318_319 := yD ((by rw [hg]; exact Nat.ne_of_lt (blk_lt (kN BK318)) : gb318 ≠ gb319)); have NB319_318 := yD ((by rw [hg]; exact Nat.ne_of_gt (blk_lt (kN BK318)) : gb319 ≠ gb318)); replace BK318 := zY BK318 hb; clear hb hbox hg; have hnb13 := NB318_319.out; have hnc13 := NB319_318.out; have := cf2_ BK318.out; have := cf2_ BK319.out) | ((with_reducible refine gate_callee (f := 160) rfl ?_); refine gL 9 Try.func160 _ (dm (spec_l00Same.calls k _ _ l0_0 _ _ l1_0 false _ (C0_0.b HB) (C1_0.b HB) A3.out) fun nd => ?_)))
  go_ret
  exact ⟨kE, kR0 HB⟩
 replace ⟨t321, A5, H⟩ := sV H
 obtain rfl := sJ H; go_enter Try.func149, Try.ntmps149
 go_wp2_with (first | ((with_reducible refine gate_dst (N := 2) rfl ?_); refine bF (N := 2) (cs := #[.slice A0_0 l0_0.length c0_0, .slice A0_1 l0_1.length c0_1]) (t := 42) HB ?_; intro gb318 w6 BK318 GW318 HB) | ((with_reducible refine gate_dst (N := 3) rfl ?_); refine bE (N := 3) (cs := #[.slice A1_0 l1_0.length c1_0, .slice A1_1 l1_1.length c1_1]) (t := 42) ?_; intro gb319 hg w7 hbox hb; have BK319 := yD (hbox); have GW319 := sW hg HB; replace HB := zX HB hb; have NB318_319 := yD ((by rw [hg]; exact Nat.ne_of_lt (blk_lt (kN BK318)) : gb318 ≠ gb319)); have NB319_318 := yD ((by rw [hg]; exact Nat.ne_of_gt (blk_lt (kN BK318)) : gb319 ≠ gb318)); replace BK318 := zY BK318 hb; clear hb hbox hg; have hnb8 := NB318_319.out; have hnc8 := NB319_318.out; have := cf2_ BK318.out; have := cf2_ BK319.out) | ((with_reducible refine gate_callee (f := 160) rfl ?_); refine gL 9 Try.func160 _ (dm (spec_l00Same.calls k _ _ l0_0 _ _ l1_0 true _ (C0_0.b HB) (C1_0.b HB) A3.out) fun nd => ?_)) | (go_at_call 160; (with_reducible refine (spec_l00Same.calls k _ _ l0_1 _ _ l1_1 t321 _ (C0_1.b HB) (C1_1.b HB) A5.out).mono ?_); rintro e w' ⟨rfl, ⟨nd, rfl⟩⟩))
 go_ret
 exact ⟨kE, kR0 HB⟩

/-! ### spec_l07Same: function 130 -/
def spec_l07Same.l0 : Nat → List (S42) → List (S42) → Int → Option (Bool)
 | 0, _, _, _ => none
 | k + 1, x0, x1, x5 => if x5 < (x0.length : Int) then (if 0 ≤ x5 then (if x5 < (x1.length : Int) then ((spec_l07SameBox.f k ((rd_T42 x0 x5).f0) ((rd_T42 x0 x5).f1) ((rd_T42 x1 x5).f0) ((rd_T42 x1 x5).f1)).bind fun t324 => (if t324 = true then (spec_l07Same.l0 k x0 x1 (wrap64 (x5 + 1))) else (some false))) else (none)) else (none)) else (some true)
def spec_l07Same.f (k : Nat) (l0 : List (S42)) (l1 : List (S42)) : Option (Bool) := if (l0.length : Int) = (l1.length : Int) then (spec_l07Same.l0 k l0 l1 0) else (some false)
def spec_l07Same.T6 : Bool × List (List Nat × List Nat) := (true, [([], []), ([], []), ([0, 1], [0, 1]), ([2], [2]), ([], []), ([], []), ([4, 5], [4, 5]), ([6], [6]), ([3, 7], [3, 7]), ([8], [8])])
def spec_l07Same.B6 : List Nat := [0, 0, 3, 7, 0, 0, 48, 112, 255, 511]
theorem spec_l07Same.tab6 : rtab .any (opsOf Try.f130 6) = spec_l07Same.T6 := by kernel_rfl
theorem spec_l07Same.bits6 : waitsOk spec_l07Same.T6.2 spec_l07Same.B6 = true := by kernel_rfl
theorem spec_l07Same.calls (k : Nat) (A0 : Option Addr) (c0 : Nat) (l0 : List (S42)) (A1 : Option Addr) (c1 : Nat) (l1 : List (S42)) (r : Bool) (w : World) (C0 : Cm k42 w A0 c0 l0) (C1 : Cm k42 w A1 c1 l1) (h : spec_l07Same.f k l0 l1 = some r) :
 Calls Try.prog 130 #[.slice A0 l0.length c0, .slice A1 l1.length c1] w fun e w' => e = .returned (.bool r) ∧ Below w.heap.size w w' := by
 have hu42 := Try.underlying42
 have HB := yD (Below.refl w.heap.size w)
 have H : (if (l0.length : Int) = (l1.length : Int) then (spec_l07Same.l0 k l0 l1 0) else (some false)) = some r := h
 clear h
 replace H := sP H; rcases H with ⟨c3, c3b0, c3b1, H⟩ | ⟨c3, c3b0, c3b1, H⟩
 ·
  have c3b2 : (l0.length == l1.length) = false := by first | simpa using c3 | (simp at c3 ⊢; omega)
  obtain rfl := sJ H; go_enter Try.func130, Try.ntmps130
  go_wp2
  go_ret
  exact ⟨kE, kR1 HB⟩
 have c3b2 : (l0.length == l1.length) = true := by first | simpa using c3 | (simp at c3 ⊢; omega)
 clear c3
 have H' := yD H
 clear H; go_enter Try.func130, Try.ntmps130
 go_wp2
 go_loopg [5] k (fun kq v5 w' => ∃ (x5_1 : Int), v5 = .int .i64 x5_1 ∧ Aside0 (spec_l07Same.l0 kq l0 l1 x5_1 = some r) ∧ Aside0 (kq ≤ k) ∧ Aside0 (Below w.heap.size w w'))
 case atStart => exact ⟨(0), kF, H', ⟨Nat.le_refl _⟩, ⟨kR1 HB⟩⟩
 case round =>
  clear H'
  obtain ⟨x5_1, rfl, HA, HK1, HB⟩ := hrel
  cases gk with
  | zero => exact absurd HA.out (by simp [spec_l07Same.l0])
  | succ k1 =>
   have H := HA.out; clear HA
   simp only [spec_l07Same.l0] at H
   replace H := sG H; rcases H with ⟨c4b0, H⟩ | ⟨c4b0, H⟩
   · obtain rfl := sJ H
     go_wp2
     go_ret
     exact ⟨kE, kR1 HB⟩
   replace ⟨c5b0, H⟩ := sE H
   replace ⟨c6b0, H⟩ := sE H
   replace ⟨t324, A7, H⟩ := sV H
   replace H := sS H; rcases H with ⟨rfl, H⟩ | ⟨rfl, H⟩
   ·
    obtain rfl := sJ H
    try go_wp2
    replace HB := yD (yP HB.out)
    obtain ⟨p322, q322, ad322, A322_0, c322_0, A322_1, c322_1, e322, hx322_0, hx322_1, HC322_0, HR322_0, HC322_1, HR322_1⟩ := sI (at_T42 C0.r x5_1)
    have hw322_1 := hx322_1; have hw322_0 := hx322_0; cases e322
    replace hx322_0 := kD HB hx322_0
    replace hx322_1 := kD HB hx322_1
    obtain ⟨p323, q323, ad323, A323_0, c323_0, A323_1, c323_1, e323, hx323_0, hx323_1, HC323_0, HR323_0, HC323_1, HR323_1⟩ := sI (at_T42 C1.r x5_1)
    have hw323_1 := hx323_1; have hw323_0 := hx323_0; cases e323
    replace hx323_0 := kD HB hx323_0
    replace hx323_1 := kD HB hx323_1
    refine s0 (m := 10) (S := fun w' => w'.cell? (ad322.add ((x5_1).toNat * 2)) = some (.slice A322_0 ((rd_T42 l0 x5_1).f0).length c322_0) ∧ w'.cell? ⟨(ad322.add ((x5_1).toNat * 2)).block, (ad322.add ((x5_1).toNat * 2)).off + 1, none⟩ = some (.slice A322_1 ((rd_T42 l0 x5_1).f1).length c322_1) ∧ w'.cell? (ad323.add ((x5_1).toNat * 2)) = some (.slice A323_0 ((rd_T42 l1 x5_1).f0).length c323_0) ∧ w'.cell? ⟨(ad323.add ((x5_1).toNat * 2)).block, (ad323.add ((x5_1).toNat * 2)).off + 1, none⟩ = some (.slice A323_1 ((rd_T42 l1 x5_1).f1).length c323_1)) spec_l07Same.tab6 spec_l07Same.bits6 ⟨(kC HB hw322_0), (kC HB hw322_1), (kC HB hw323_0), (kC HB hw323_1)⟩ fun hHeld HT_ HW_ => ?_
    generalize wr.drew = w11 at HB HR322_0 HR322_1 HR323_0 HR323_1 hx322_0 hx322_1 hx323_0 hx323_1 hHeld ⊢
    refine qa 10 0 1 ?_; refine qa 10 1 3 ?_; refine qa 10 2 7 ?_; refine qa 10 4 23 ?_; refine qa 10 5 55 ?_; refine qa 10 6 119 ?_; refine qc 10 3 127 hHeld ?_; refine qc 10 7 255 hHeld ?_
    refine qo 10 8 511 (some 25) fun K hK => ?_
    refine qg Try.func149 _ ((spec_l07SameBox.calls k1 _ _ ((rd_T42 l0 x5_1).f0) _ _ ((rd_T42 l0 x5_1).f1) _ _ ((rd_T42 l1 x5_1).f0) _ _ ((rd_T42 l1 x5_1).f1) false _ (cB HR322_0 HC322_0 HB) (cB HR322_1 HC322_1 HB) (cB HR323_0 HC323_0 HB) (cB HR323_1 HC323_1 HB) A7.out).mono ?_)
    rintro e w12 ⟨rfl, hb⟩
    refine ⟨_, rfl, ?_⟩
    replace HB := zX HB hb
    refine hK.out _ _ ⟨(kC HB hw322_0), (kC HB hw322_1), (kC HB hw323_0), (kC HB hw323_1)⟩ (fun hHeld => ?_)
    clear hK K
    refine nZ 25 ?_
    refine qa 10 9 1023 ?_
    refine qd ?_
    try go_wp2
    go_ret
    exact ⟨kE, kR1 HB⟩
   have H' := yD H
   clear H
   try go_wp2
   replace HB := yD (yP HB.out)
   obtain ⟨p322, q322, ad322, A322_0, c322_0, A322_1, c322_1, e322, hx322_0, hx322_1, HC322_0, HR322_0, HC322_1, HR322_1⟩ := sI (at_T42 C0.r x5_1)
   have hw322_1 := hx322_1; have hw322_0 := hx322_0; cases e322
   replace hx322_0 := kD HB hx322_0
   replace hx322_1 := kD HB hx322_1
   obtain ⟨p323, q323, ad323, A323_0, c323_0, A323_1, c323_1, e323, hx323_0, hx323_1, HC323_0, HR323_0, HC323_1, HR323_1⟩ := sI (at_T42 C1.r x5_1)
   have hw323_1 := hx323_1; have hw323_0 := hx323_0; cases e323
   replace hx323_0 := kD HB hx323_0
   replace hx323_1 := kD HB hx323_1
   refine s0 (m := 10) (S := fun w' => w'.cell? (ad322.add ((x5_1).toNat * 2)) = some (.slice A322_0 ((rd_T42 l0 x5_1).f0).length c322_0) ∧ w'.cell? ⟨(ad322.add ((x5_1).toNat * 2)).block, (ad322.add ((x5_1).toNat * 2)).off + 1, none⟩ = some (.slice A322_1 ((rd_T42 l0 x5_1).f1).length c322_1) ∧ w'.cell? (ad323.add ((x5_1).toNat * 2)) = some (.slice A323_0 ((rd_T42 l1 x5_1).f0).length c323_0) ∧ w'.cell? ⟨(ad323.add ((x5_1).toNat * 2)).block, (ad323.add ((x5_1).toNat * 2)).off + 1, none⟩ = some (.slice A323_1 ((rd_T42 l1 x5_1).f1).length c323_1)) spec_l07Same.tab6 spec_l07Same.bits6 ⟨(kC HB hw322_0), (kC HB hw322_1), (kC HB hw323_0), (kC HB hw323_1)⟩ fun hHeld HT_ HW_ => ?_
   generalize wr.drew = w9 at HB HR322_0 HR322_1 HR323_0 HR323_1 hx322_0 hx322_1 hx323_0 hx323_1 hHeld ⊢
   refine qa 10 0 1 ?_; refine qa 10 1 3 ?_; refine qa 10 2 7 ?_; refine qa 10 4 23 ?_; refine qa 10 5 55 ?_; refine qa 10 6 119 ?_; refine qc 10 3 127 hHeld ?_; refine qc 10 7 255 hHeld ?_
   refine qo 10 8 511 (some 25) fun K hK => ?_
   refine qg Try.func149 _ ((spec_l07SameBox.calls k1 _ _ ((rd_T42 l0 x5_1).f0) _ _ ((rd_T42 l0 x5_1).f1) _ _ ((rd_T42 l1 x5_1).f0) _ _ ((rd_T42 l1 x5_1).f1) true _ (cB HR322_0 HC322_0 HB) (cB HR322_1 HC322_1 HB) (cB HR323_0 HC323_0 HB) (cB HR323_1 HC323_1 HB) A7.out).mono ?_)
   rintro e w10 ⟨rfl, hb⟩
   refine ⟨_, rfl, ?_⟩
   replace HB := zX HB hb
   refine hK.out _ _ ⟨(kC HB hw322_0), (kC HB hw322_1), (kC HB hw323_0), (kC HB hw323_1)⟩ (fun hHeld => ?_)
   clear hK K
   refine nZ 25 ?_
   refine qa 10 9 1023 ?_
   refine qd ?_
   try go_wp2
   go_roundg k1
   case measure => have := HK1.out; omega
   case rel => exact ⟨(wrap64 (x5_1 + 1)), kF, H', ⟨by have := HK1.out; omega⟩, ⟨kR1 HB⟩⟩
/-! ### spec_l07Combine: function 97 -/
mutual
def spec_l07Combine.l0 : Nat → Int → List (S42) → List (S42) → Int → List (S42) → List Int → List (S42) → Int → Int → Option ((List (S42)))
 | 0, _, _, _, _, _, _, _, _, _ => none
 | k + 1, x0, x1, x2, x3, x9, x10, x11, x12, x13 => if x13 < (x10.length : Int) then (if (wrap64 (x13 + 1)) < (x10.length : Int) then (if 0 ≤ x13 then ((spec_l07Cross.f k x1 (rd x10 x13)).bind fun t348 => ((spec_l07Cross.f k x2 (rd x10 x13)).bind fun t352 => ((spec_l07Combine.f k x0 t348 t352 (wrap64 (x3 - 1))).bind fun t355 => (spec_l07Combine.j1 k x0 x1 x2 x3 x9 x10 x11 x12 x13 t355)))) else (none)) else (spec_l07Combine.j1 k x0 x1 x2 x3 x9 x10 x11 x12 x13 (([] : List (S42))))) else (some x9)
def spec_l07Combine.j1 : Nat → Int → List (S42) → List (S42) → Int → List (S42) → List Int → List (S42) → Int → Int → List (S42) → Option ((List (S42)))
 | 0, _, _, _, _, _, _, _, _, _, _ => none
 | k + 1, x0, x1, x2, x3, x9, x10, x11, x12, x13, x14 => if x13 > 0 then ((spec_l07Same.f k x14 x11).bind fun t358 => (spec_l07Combine.j2 k x0 x1 x2 x3 x9 x10 x11 x12 x13 x14 t358)) else (spec_l07Combine.j2 k x0 x1 x2 x3 x9 x10 x11 x12 x13 x14 false)
def spec_l07Combine.j2 : Nat → Int → List (S42) → List (S42) → Int → List (S42) → List Int → List (S42) → Int → Int → List (S42) → Bool → Option ((List (S42)))
 | 0, _, _, _, _, _, _, _, _, _, _, _ => none
 | k + 1, x0, x1, x2, x3, x9, x10, x11, x12, x13, x14, x74 => if x74 = true then (spec_l07Combine.l0 k x0 x1 x2 x3 x9 x10 x11 x12 (wrap64 (x13 + 1))) else (spec_l07Combine.l1 k x0 x1 x2 x3 x9 x10 x11 x12 x13 x14 0)
def spec_l07Combine.l1 : Nat → Int → List (S42) → List (S42) → Int → List (S42) → List Int → List (S42) → Int → Int → List (S42) → Int → Option ((List (S42)))
 | 0, _, _, _, _, _, _, _, _, _, _, _ => none
 | k + 1, x0, x1, x2, x3, x9, x10, x11, x12, x13, x14, x15 => if x15 < (x11.length : Int) then ((some (([x12] : List Int) : List Int)).bind fun y359 => (if 0 ≤ x15 then (if y359.length + ((rd_T42 x11 x15).f0).length < 17592186044416 then (if 0 ≤ x13 then (if x13 < (x10.length : Int) then ((some (([rd x10 x13] : List Int) : List Int)).bind fun y367 => (if y367.length + ((rd_T42 x11 x15).f1).length < 17592186044416 then (if x9.length < 2932031007402 then (spec_l07Combine.l1 k x0 x1 x2 x3 (x9 ++ [(⟨(y359 ++ ((rd_T42 x11 x15).f0)), (y367 ++ ((rd_T42 x11 x15).f1))⟩ : S42)]) x10 x11 x12 x13 x14 (wrap64 (x15 + 1))) else (none)) else (none))) else (none)) else (none)) else (none)) else (none))) else (if 0 ≤ x13 then (if x13 < (x10.length : Int) then (spec_l07Combine.l0 k x0 x1 x2 x3 x9 x10 x14 (rd x10 x13) (wrap64 (x13 + 1))) else (none)) else (none))
def spec_l07Combine.f : Nat → Int → List (S42) → List (S42) → Int → Option ((List (S42)))
 | 0, _, _, _, _ => none
 | k + 1, a0, l1, l2, a3 => (some (([] : List (S42)) : List (S42))).bind fun y325 => (if a3 = 0 then ((spec_l07Holds.f a0 (decide ((l1.length : Int) > 0)) (decide ((l2.length : Int) > 0))).bind fun t328 => (if t328 = true then (if y325.length < 2932031007402 then (some (y325 ++ [(⟨([] : List Int), ([] : List Int)⟩ : S42)])) else (none)) else (some y325))) else ((spec_l07Cuts.f k (([] : List Int)) l1).bind fun t335 => ((spec_l07Cuts.f k t335 l2).bind fun t338 => (spec_l07Combine.l0 k a0 l1 l2 a3 y325 t338 (([] : List (S42))) 0 0))))
end
def spec_l07Combine.T14 : Bool × List (List Nat × List Nat) := (true, [([], []), ([], []), ([], []), ([], []), ([2, 3], [2, 3]), ([4], [4]), ([1, 5], [1, 5]), ([], []), ([], []), ([], []), ([8, 9], [8, 9]), ([10], [10]), ([7, 11, 6], [7, 11]), ([], []), ([13], [13]), ([0, 6, 12, 14, 12], [0, 6, 12, 14]), ([15, 15, 0, 1, 2, 3, 4, 5, 6, 7, 8, 9, 10, 11, 12, 13, 14, 15], [15])])
def spec_l07Combine.B14 : List Nat := [0, 0, 0, 0, 12, 28, 62, 0, 0, 0, 768, 1792, 4094, 0, 8192, 32767, 65535]
theorem spec_l07Combine.tab14 : rtab .any (opsOf Try.f97 14) = spec_l07Combine.T14 := by kernel_rfl
theorem spec_l07Combine.bits14 : waitsOk spec_l07Combine.T14.2 spec_l07Combine.B14 = true := by kernel_rfl
def spec_l07Combine.T20 : Bool × List (List Nat × List Nat) := (true, [([], []), ([], []), ([0, 1], [0, 1]), ([2], [2]), ([3], [3]), ([], []), ([], []), ([5, 6], [5, 6]), ([7], [7]), ([8], [8]), ([4, 9], [4, 9]), ([10, 10, 0, 1, 2, 3, 4, 5, 6, 7, 8, 9, 10], [10])])
def spec_l07Combine.B20 : List Nat := [0, 0, 3, 7, 15, 0, 0, 96, 224, 480, 1023, 2047]
theorem spec_l07Combine.tab20 : rtab .any (opsOf Try.f97 20) = spec_l07Combine.T20 := by kernel_rfl
theorem spec_l07Combine.bits20 : waitsOk spec_l07Combine.T20.2 spec_l07Combine.B20 = true := by kernel_rfl
theorem spec_l07Combine.calls (k : Nat) : ∀ (a0 : Int) (A1 : Option Addr) (c1 : Nat) (l1 : List (S42)) (A2 : Option Addr) (c2 : Nat) (l2 : List (S42)) (a3 : Int) (r : List (S42)) (w : World) (hr1 : Kd.C k42 w A1 l1.length l1) (hc1 : l1.length ≤ c1) (hr2 : Kd.C k42 w A2 l2.length l2) (hc2 : l2.length ≤ c2) (h : spec_l07Combine.f k a0 l1 l2 a3 = some r),
 Calls Try.prog 97 #[.int .i64 a0, .slice A1 l1.length c1, .slice A2 l2.length c2, .int .i64 a3] w fun e w' => ∃ v0_ : Value, e = .returned (v0_) ∧ Kd.S k42 42 w' w.heap.size (fun _ => True) v0_ r ∧ Below w.heap.size w w' := by
 induction k using Nat.strongRecOn with
 | _ k ih =>
 intro a0 A1 c1 l1 A2 c2 l2 a3 r w hr1 hc1 hr2 hc2 h
 cases k with
 | zero => exact absurd h (by simp [spec_l07Combine.f])
 | succ k =>
 simp only [spec_l07Combine.f] at h
 have hu42 := Try.underlying42
 have HR1 := yD hr1
 have HC1 := yD hc1
 clear hr1 hc1
 have HR2 := yD hr2
 have HC2 := yD hc2
 clear hr2 hc2
 have HB := yD (Below.refl w.heap.size w)
 have H : ((some (([] : List (S42)) : List (S42))).bind fun y325 => (if a3 = 0 then ((spec_l07Holds.f a0 (decide ((l1.length : Int) > 0)) (decide ((l2.length : Int) > 0))).bind fun t328 => (if t328 = true then (if y325.length < 2932031007402 then (some (y325 ++ [(⟨([] : List Int), ([] : List Int)⟩ : S42)])) else (none)) else (some y325))) else ((spec_l07Cuts.f k (([] : List Int)) l1).bind fun t335 => ((spec_l07Cuts.f k t335 l2).bind fun t338 => (spec_l07Combine.l0 k a0 l1 l2 a3 y325 t338 (([] : List (S42))) 0 0))))) = some r := h
 clear h
 obtain ⟨y325, hy325⟩ : ∃ y_ : List (S42), y_ = (([] : List (S42))) := ⟨_, rfl⟩
 replace H : (if a3 = 0 then ((spec_l07Holds.f a0 (decide ((l1.length : Int) > 0)) (decide ((l2.length : Int) > 0))).bind fun t328 => (if t328 = true then (if y325.length < 2932031007402 then (some (y325 ++ [(⟨([] : List Int), ([] : List Int)⟩ : S42)])) else (none)) else (some y325))) else ((spec_l07Cuts.f k (([] : List Int)) l1).bind fun t335 => ((spec_l07Cuts.f k t335 l2).bind fun t338 => (spec_l07Combine.l0 k a0 l1 l2 a3 y325 t338 (([] : List (S42))) 0 0)))) = some r := by first | (rw [hy325]; with_reducible exact H) | (have H2_ := (Option.bind_some _ _).symm.trans H; rw [hy325]; with_reducible exact H2_) | (have H2_ := (Option.bind_some _ _).symm.trans H; with_reducible exact H2_) | with_reducible exact H | (rw [hy325]; exact H) | exact H
 have Ny325 := yD hy325
 clear hy325
 replace H := sQ H; rcases H with ⟨-, c5b0, c5b1, H⟩ | ⟨c5, c5b0, c5b1, H⟩
 ·
  replace ⟨t328, A6, H⟩ := sV H
  replace H := sS H; rcases H with ⟨rfl, H⟩ | ⟨rfl, H⟩
  ·
   obtain rfl := sJ H; go_enter Try.func97, Try.ntmps97
   go_wp2_with (first | ((with_reducible refine gate_dst (N := 18) rfl ?_); refine Kd.S_lit k42 _ 42 ?hg (N := 18) ?hd (xs := ([] : List (S42))) (inner := []) (ok := fun _ => True) (okp := fun _ => True) ?hr ?hp (fun _ hk => hk) trivial (Below.refl _ _) (Nat.le_refl _) (by simp) ?_; (case hd => rfl); (case hg => rfl); (case hr => first | (go_simp; done) | (go_simp; rfl)); (case hp => exact (Reps.none _ _)); intro v326 w12 ho13 hb hg_ hnew_; clear hg_ hnew_; (first | rw [← Ny325.out] at ho13 | (simp only [Int.reduceToNat] at ho13; rw [← Ny325.out] at ho13)); have HO327 := yD (zG ho13 (below_size (kB HB))); replace HB := zX HB hb; clear hb ho13) | ((with_reducible refine gate_callee (f := 127) rfl ?_); refine goesL_ (some 28) rfl rfl Try.func127 (by kernel_rfl) rfl #[.int .i64 a0, .bool (decide (0 < l1.length)), .bool (decide (0 < l2.length))] rfl (by first | (with_reducible rfl; done) | (simp only [zN, zO]; rfl) | (go_simp; done) | (go_simp; rfl)) ?_; (refine (spec_l07Holds.calls a0 (decide (0 < l1.length)) (decide (0 < l2.length)) false _ (by have h_ := A6.out; rw [show decide ((l1.length : Int) > 0) = decide (0 < l1.length) from decide_eq_decide.2 (by omega), show decide ((l2.length : Int) > 0) = decide (0 < l2.length) from decide_eq_decide.2 (by omega)] at h_; exact h_)).mono ?_); rintro e w' ⟨rfl, ⟨nd, rfl⟩⟩; refine ⟨_, rfl, ?_⟩))
   go_ret
   exact ⟨_, kE, kS HO327, kR1 HB⟩
  replace ⟨LMc8, H⟩ := sM H
  obtain ⟨y329, hy329⟩ : ∃ y_ : List (S42), y_ = (y325 ++ [(⟨([] : List Int), ([] : List Int)⟩ : S42)]) := ⟨_, rfl⟩
  replace H : (some y329) = some r := by first | (rw [hy329]; with_reducible exact H) | (have H2_ := (Option.bind_some _ _).symm.trans H; rw [hy329]; with_reducible exact H2_) | (have H2_ := (Option.bind_some _ _).symm.trans H; with_reducible exact H2_) | with_reducible exact H | (rw [hy329]; exact H) | exact H
  have Ny329 := yD hy329
  clear hy329; obtain rfl := sJ H; go_enter Try.func97, Try.ntmps97
  go_wp2_with (first | ((with_reducible refine gate_dst (N := 18) rfl ?_); refine Kd.S_lit k42 _ 42 ?hg (N := 18) ?hd (xs := ([] : List (S42))) (inner := []) (ok := fun _ => True) (okp := fun _ => True) ?hr ?hp (fun _ hk => hk) trivial (Below.refl _ _) (Nat.le_refl _) (by simp) ?_; (case hd => rfl); (case hg => rfl); (case hr => first | (go_simp; done) | (go_simp; rfl)); (case hp => exact (Reps.none _ _)); intro v326 w9 ho10 hb hg_ hnew_; clear hg_ hnew_; (first | rw [← Ny325.out] at ho10 | (simp only [Int.reduceToNat] at ho10; rw [← Ny325.out] at ho10)); have HO327 := yD (zG ho10 (below_size (kB HB))); replace HB := zX HB hb; clear hb ho10) | ((with_reducible refine gate_callee (f := 127) rfl ?_); refine goesL_ (some 28) rfl rfl Try.func127 (by kernel_rfl) rfl #[.int .i64 a0, .bool (decide (0 < l1.length)), .bool (decide (0 < l2.length))] rfl (by first | (with_reducible rfl; done) | (simp only [zN, zO]; rfl) | (go_simp; done) | (go_simp; rfl)) ?_; (refine (spec_l07Holds.calls a0 (decide (0 < l1.length)) (decide (0 < l2.length)) true _ (by have h_ := A6.out; rw [show decide ((l1.length : Int) > 0) = decide (0 < l1.length) from decide_eq_decide.2 (by omega), show decide ((l2.length : Int) > 0) = decide (0 < l2.length) from decide_eq_decide.2 (by omega)] at h_; exact h_)).mono ?_); rintro e w' ⟨rfl, ⟨nd, rfl⟩⟩; refine ⟨_, rfl, ?_⟩) | ((with_reducible refine gate_builtin (b := .append) (xs := #[.tmp 29, .tmp 31]) rfl ?_); at_builtin; refine Kd.S_append k42 (w0 := w) w.heap.size rfl (.tmp 29) (.tmp 31) 24 42 (.agg #[(.slice none 0 0), (.slice none 0 0)]) 48 rfl Try.underlying24 info42 rfl (by decide) (by omega) v326 y325 (⟨([] : List Int), ([] : List Int)⟩ : S42) [.slice none 0 0, .slice none 0 0] (fun _ => True) (fun _ => False) rfl rfl ?aP (fun k_ hk_ => hk_.elim) ?aF ?aO ?aB ?aS ?aL ?_; (case aP => exact k42_mkM _ _ _ (⟨([] : List Int), ([] : List Int)⟩ : S42) (Kd.R_nil _ _ _ _ _) (Kd.R_nil _ _ _ _ _)); (case aB => exact (kB HB)); (case aF => exact (fun _ _ => trivial)); (case aO => exact (mS HO327 (fun k_ hk => ⟨trivial, fun e_ => e_⟩))); (case aS => exact (below_size (kB HB))); (case aL => have := LMc8.out; omega); intro v330 w11 ho hb hg hat; rw [← Ny329.out] at ho; replace HB := yD (hb); have HO331 := yD (ho); clear HO327; clear ho hb hg hat))
  go_ret
  exact ⟨_, kE, kS HO331, kR1 HB⟩
 obtain ⟨y332, hy332⟩ : ∃ y_ : List Int, y_ = (([] : List Int)) := ⟨_, rfl⟩
 replace H : ((spec_l07Cuts.f k y332 l1).bind fun t335 => ((spec_l07Cuts.f k t335 l2).bind fun t338 => (spec_l07Combine.l0 k a0 l1 l2 a3 y325 t338 (([] : List (S42))) 0 0))) = some r := by first | (rw [hy332]; with_reducible exact H) | (have H2_ := (Option.bind_some _ _).symm.trans H; rw [hy332]; with_reducible exact H2_) | (have H2_ := (Option.bind_some _ _).symm.trans H; with_reducible exact H2_) | with_reducible exact H | (rw [hy332]; exact H) | exact H
 have Ny332 := yD hy332
 clear hy332
 replace ⟨t335, A14, H⟩ := sV H
 replace ⟨t338, A15, H⟩ := sV H
 obtain ⟨y341, hy341⟩ : ∃ y_ : List (S42), y_ = (([] : List (S42))) := ⟨_, rfl⟩
 replace H : (spec_l07Combine.l0 k a0 l1 l2 a3 y325 t338 y341 0 0) = some r := by first | (rw [hy341]; with_reducible exact H) | (have H2_ := (Option.bind_some _ _).symm.trans H; rw [hy341]; with_reducible exact H2_) | (have H2_ := (Option.bind_some _ _).symm.trans H; with_reducible exact H2_) | with_reducible exact H | (rw [hy341]; exact H) | exact H
 have Ny341 := yD hy341
 clear hy341
 have H' := yD H
 clear H; go_enter Try.func97, Try.ntmps97
 go_wp2_with (first | ((with_reducible refine gate_dst (N := 18) rfl ?_); refine Kd.S_lit k42 _ 42 ?hg (N := 18) ?hd (xs := ([] : List (S42))) (inner := []) (ok := fun _ => True) (okp := fun _ => True) ?hr ?hp (fun _ hk => hk) trivial (Below.refl _ _) (Nat.le_refl _) (by simp) ?_; (case hd => rfl); (case hg => rfl); (case hr => first | (go_simp; done) | (go_simp; rfl)); (case hp => exact (Reps.none _ _)); intro v326 w16 ho17 hb hg_ hnew_; clear hg_ hnew_; (first | rw [← Ny325.out] at ho17 | (simp only [Int.reduceToNat] at ho17; rw [← Ny325.out] at ho17)); have HO327 := yD (zG ho17 (below_size (kB HB))); replace HB := zX HB hb; clear hb ho17) | ((with_reducible refine gate_dst (N := 34) rfl ?_); refine Kd.R_lit (Kd.int .i64) _ 2 ?hg (N := 34) ?hd (xs := ([] : List Int)) (inner := []) (ok := fun _ => True) (okp := fun _ => True) ?hr ?hp (fun _ hk => hk) trivial (Below.refl _ _) (Nat.le_refl _) (by simp) ?_; (case hd => rfl); (case hg => rfl); (case hr => first | (go_simp; done) | (go_simp; rfl)); (case hp => exact (Reps.none _ _)); intro v333 w18 ho19 hb hg_ hnew_; clear hg_ hnew_; (first | rw [← Ny332.out] at ho19 | (simp only [Int.reduceToNat] at ho19; rw [← Ny332.out] at ho19)); replace HO327 := yD (Kd.S_elder' (kS HO327) (yH ho19) hb); have HO334 := yD (yZ ho19 (below_size (kB HB))); replace HB := zX HB hb; clear hb ho19; obtain ⟨Ao20, co20, eo20⟩ := Kd.R_slice HO334.out; subst eo20) | ((with_reducible refine gate_callee (f := 128) rfl ?_); refine gL 36 Try.func128 _ ((spec_l07Cuts.calls k (fun k_ => some k_ = (.slice Ao20 y332.length co20 : Value).ownBlock) _ _ y332 _ _ l1 t335 _ ?z1 (cB HR1 HC1 HB) A14.out).mono ?_); (case z1 => exact Kd.R_V (Kd.R_tight rfl (Kd.R_apart' (HO334.out) (Kd.S_typed HO327.out) (by decide)))); rintro e w21 ⟨v336, rfl, ho0, hb⟩; refine ⟨_, rfl, ?_⟩; have HO337 := yD (Kd.V_lower (Kd.V_mono (ok' := fun k_ => oB v326 k_) ho0 (fun k_ hk_ => Or.elim hk_ (fun hs_ => ((Kd.R_apart' (HO334.out) (Kd.S_typed HO327.out) (by decide)).1 k_ hs_.symm).2) (fun hn_ => (Kd.fresh' (Kd.S_lt (kS HO327)) k_ hn_)))) (below_size (kB HB))); replace HO327 := yD (Kd.S_below (kS HO327) hb); replace HO334 := yD (zE (kA HO334) hb); replace HB := zX HB hb; clear hb ho0; obtain ⟨Ao22, co22, eo22⟩ := Kd.V_slice HO337.out; subst eo22) | ((with_reducible refine gate_callee (f := 128) rfl ?_); refine gL 38 Try.func128 _ ((spec_l07Cuts.calls k (fun k_ => oB v326 k_) _ _ t335 _ _ l2 t338 _ ?z1 (cB HR2 HC2 HB) A15.out).mono ?_); (case z1 => exact HO337.out); rintro e w23 ⟨v339, rfl, ho0, hb⟩; refine ⟨_, rfl, ?_⟩; replace HO334 := yD (zE (kA HO334) hb); replace HO337 := yD (Kd.V_below (kU HO337) hb); have HO340 := yD (Kd.V_lower (Kd.V_mono (ok' := fun k_ => oB v326 k_) ho0 (fun k_ hk_ => Or.elim hk_ (fun hs_ => hs_) (fun hn_ => (Kd.fresh' (Kd.S_lt (kS HO327)) k_ hn_)))) (below_size (kB HB))); replace HO327 := yD (Kd.S_below (kS HO327) hb); replace HB := zX HB hb; clear hb ho0) | ((with_reducible refine gate_dst (N := 39) rfl ?_); refine Kd.S_lit k42 _ 42 ?hg (N := 39) ?hd (xs := ([] : List (S42))) (inner := []) (ok := fun _ => True) (okp := fun _ => True) ?hr ?hp (fun _ hk => hk) trivial (Below.refl _ _) (Nat.le_refl _) (by simp) ?_; (case hd => rfl); (case hg => rfl); (case hr => first | (go_simp; done) | (go_simp; rfl)); (case hp => exact (Reps.none _ _)); intro v342 w24 ho25 hb hg_ hnew_; clear hg_ hnew_; (first | rw [← Ny341.out] at ho25 | (simp only [Int.reduceToNat] at ho25; rw [← Ny341.out] at ho25)); replace HO337 := yD (Kd.V_elder' (kU HO337) (Kd.S_base ho25) hb); replace HO340 := yD (Kd.V_elder' (kU HO340) (Kd.S_base ho25) hb); have HO343 := yD (zG (zD (zD ho25 (Kd.S_lt (kS HO327))) (yK (kA HO334))) (below_size (kB HB))); replace HO327 := yD (Kd.S_elder' (kS HO327) (Kd.S_base ho25) hb); replace HO334 := yD (zE (kA HO334) hb); replace HB := zX HB hb; clear hb ho25))
 (try simp only [Act.put, zH, zI, zJ])
 go_loopg [9, 11, 12, 13] k (fun kq v9 v11 v12 v13 w' => ∃ (x9_1 : List (S42)) (x11_1 : List (S42)) (x12_1 : Int) (x13_1 : Int), v12 = .int .i64 x12_1 ∧ v13 = .int .i64 x13_1 ∧ Aside0 (spec_l07Combine.l0 kq a0 l1 l2 a3 x9_1 t338 x11_1 x12_1 x13_1 = some r) ∧ Aside0 (kq ≤ k) ∧ Aside0 (Kd.S k42 42 w' w.heap.size (fun k_ => oB v11 k_) v9 x9_1) ∧ Aside0 (Kd.V (Kd.int .i64) 2 w' w.heap.size (fun k_ => oB v9 k_ ∧ oB v11 k_) v339 t338) ∧ Aside0 (Kd.S k42 42 w' w.heap.size (fun k_ => oB v9 k_) v11 x11_1) ∧ Aside0 (Below w.heap.size w w'))
 case atStart => exact ⟨(y325), (y341), (0), (0), kF, kF, H', ⟨Nat.le_refl _⟩, ⟨mS HO327 (fun _ hk => hk.2)⟩, ⟨kU HO340⟩, ⟨mS HO343 (fun _ hk => hk.1.2)⟩, ⟨kR1 HB⟩⟩
 case round =>
  clear H'
  obtain ⟨x9_1, x11_1, x12_1, x13_1, rfl, rfl, HA, HK1, HO_9, HO_10, HO_11, HB⟩ := hrel
  cases gk with
  | zero => exact absurd HA.out (by simp [spec_l07Combine.l0])
  | succ k1 =>
   have H := HA.out; clear HA
   simp only [spec_l07Combine.l0] at H
   replace H := sG H; rcases H with ⟨c26b0, H⟩ | ⟨c26b0, H⟩
   ·
    obtain rfl := sJ H
    obtain ⟨Ao70, co70, eo70⟩ := Kd.V_slice HO_10.out
    subst eo70
    go_wp2
    go_ret
    exact ⟨_, kE, mS HO_9 (fun _ hk => trivial), kR1 HB⟩
   obtain ⟨y344, hy344⟩ : ∃ y_ : List (S42), y_ = (([] : List (S42))) := ⟨_, rfl⟩
   replace H : (if (wrap64 (x13_1 + 1)) < (t338.length : Int) then (if 0 ≤ x13_1 then ((spec_l07Cross.f k1 l1 (rd t338 x13_1)).bind fun t348 => ((spec_l07Cross.f k1 l2 (rd t338 x13_1)).bind fun t352 => ((spec_l07Combine.f k1 a0 t348 t352 (wrap64 (a3 - 1))).bind fun t355 => (spec_l07Combine.j1 k1 a0 l1 l2 a3 x9_1 t338 x11_1 x12_1 x13_1 t355)))) else (none)) else (spec_l07Combine.j1 k1 a0 l1 l2 a3 x9_1 t338 x11_1 x12_1 x13_1 y344)) = some r := by first | (rw [hy344]; with_reducible exact H) | (have H2_ := (Option.bind_some _ _).symm.trans H; rw [hy344]; with_reducible exact H2_) | (have H2_ := (Option.bind_some _ _).symm.trans H; with_reducible exact H2_) | with_reducible exact H | (rw [hy344]; exact H) | exact H
   have Ny344 := yD hy344
   clear hy344
   have HC27 := yD H
   clear H
   obtain ⟨Ao28, co28, eo28⟩ := Kd.V_slice HO_10.out
   subst eo28
   go_upto_if 51 with (first | ((with_reducible refine gate_dst (N := 46) rfl ?_); refine Kd.S_lit k42 _ 42 ?hg (N := 46) ?hd (xs := ([] : List (S42))) (inner := []) (ok := fun _ => True) (okp := fun _ => True) ?hr ?hp (fun _ hk => hk) trivial (Below.refl _ _) (Nat.le_refl _) (by simp) ?_; (case hd => rfl); (case hg => rfl); (case hr => first | (go_simp; done) | (go_simp; rfl)); (case hp => exact (Reps.none _ _)); intro v345 w29 ho30 hb hg_ hnew_; clear hg_ hnew_; (first | rw [← Ny344.out] at ho30 | (simp only [Int.reduceToNat] at ho30; rw [← Ny344.out] at ho30)); replace HO_10 := yD (Kd.V_elder' (kU HO_10) (Kd.S_base ho30) hb); have HO346 := yD (zG (zD (zD ho30 (Kd.S_lt (kS HO_9))) (Kd.S_lt (kS HO_11))) (below_size (kB HB))); replace HO_9 := yD (Kd.S_elder' (kS HO_9) (Kd.S_base ho30) hb); replace HO_11 := yD (Kd.S_elder' (kS HO_11) (Kd.S_base ho30) hb); replace HB := zX HB hb; clear hb ho30))
   (try simp only [Act.put, zH, zI, zJ])
   go_cut [14] (fun v14 wc => ∃ (kq : Nat) (x14_26 : List (S42)), Aside0 (spec_l07Combine.j1 kq a0 l1 l2 a3 x9_1 t338 x11_1 x12_1 x13_1 x14_26 = some r) ∧ Aside0 (kq ≤ k1) ∧ Aside0 (Kd.S k42 42 wc w.heap.size (fun k_ => oB u11 k_ ∧ oB v14 k_) u9 x9_1) ∧ Aside0 (Kd.V (Kd.int .i64) 2 wc w.heap.size (fun k_ => oB u9 k_ ∧ oB u11 k_ ∧ oB v14 k_) (.slice Ao28 t338.length co28) t338) ∧ Aside0 (Kd.S k42 42 wc w.heap.size (fun k_ => oB u9 k_ ∧ oB v14 k_) u11 x11_1) ∧ Aside0 (Kd.S k42 42 wc w.heap.size (fun k_ => oB u9 k_ ∧ oB u11 k_) v14 x14_26) ∧ Aside0 (Below w.heap.size w wc))
   case first =>
    have H := HC27.out; clear HC27
    replace H := sG H; rcases H with ⟨c31b0, H⟩ | ⟨c31b0, H⟩
    ·
     (first | rw [c31b0] | (simp only [i64_w, i32_w]; rw [c31b0]) | (simp only [bne] at c31b0; rw [c31b0]) | skip)
     have H' := yD H
     clear H
     go_wp2
     go_meet
     case rel => exact ⟨_, (y344), H', ⟨by have := HK1.out; first | omega | exact Nat.le_refl _⟩, ⟨kS HO_9⟩, ⟨mV HO_10 (fun _ hk => ⟨hk.1.1, ⟨hk.1.2, hk.2⟩⟩)⟩, ⟨kS HO_11⟩, ⟨mS HO346 (fun _ hk => ⟨hk.1.2, hk.2⟩)⟩, ⟨kR1 HB⟩⟩
    (first | rw [c31b0] | (simp only [i64_w, i32_w]; rw [c31b0]) | (simp only [bne] at c31b0; rw [c31b0]) | skip)
    replace ⟨c32b0, H⟩ := sE H
    replace ⟨t348, A33, H⟩ := sV H
    replace ⟨t352, A34, H⟩ := sV H
    replace ⟨t355, A35, H⟩ := sV H
    have H' := yD H
    clear H
    try go_wp2
    replace HO_9 := yD (yU HO_9.out); replace HO_10 := yD (Kd.V_drew HO_10.out); replace HO_11 := yD (yU HO_11.out); replace HO346 := yD (yU HO346.out); replace HB := yD (yP HB.out)
    obtain ⟨p347, q347, ad347, e347, hx347_0⟩ := sI (Kd.at_int (Kd.V_reads' HO_10.out).2.2 x13_1)
    cases e347
    obtain ⟨p351, q351, ad351, e351, hx351_0⟩ := sI (Kd.at_int (Kd.V_reads' HO_10.out).2.2 x13_1)
    obtain rfl : ad347 = ad351 := (by injection e351)
    refine s0 (m := 17) (S := fun w' => w'.cell? (ad347.add (x13_1).toNat) = some (.int .i64 (rd t338 x13_1)) ∧ w'.cell? (ad347.add (x13_1).toNat) = some (.int .i64 (rd t338 x13_1))) spec_l07Combine.tab14 spec_l07Combine.bits14 ⟨hx347_0, hx351_0⟩ fun hHeld HT_ HW_ => ?_
    generalize w29.drew = w36 at HO_9 HO_10 HO_11 HO346 HB hx347_0 hx351_0 hHeld ⊢
    refine qa 17 0 1 ?_; refine qa 17 1 3 ?_; refine qa 17 2 7 ?_; refine qa 17 3 15 ?_; refine qa 17 4 31 ?_; refine qa 17 7 159 ?_; refine qa 17 8 415 ?_; refine qa 17 9 927 ?_; refine qa 17 10 1951 ?_; refine qa 17 13 10143 ?_; refine qa 17 14 26527 ?_; refine qc 17 5 26559 hHeld ?_; refine qc 17 11 28607 hHeld ?_
    refine qo 17 6 28671 (some 58) fun K hK => ?_
    refine qg Try.func129 _ ((spec_l07Cross.calls k1 (fun k_ => k_ < w.heap.size) _ _ l1 (rd t338 x13_1) t348 _ ?z1 A33.out).mono ?_)
    (case z1 => exact Kd.V_mk HC1.out (Kd.F_below (Kd.C_F k42_heap HR1.out) (kB HB)))
    rintro e w37 ⟨v349, rfl, ho0, hb⟩
    have HS0_ := (hb.cell (zQ _ _ (hHeld.1))).trans (hHeld.1)
    have HS1_ := (hb.cell (zQ _ _ (hHeld.2))).trans (hHeld.2)
    refine ⟨_, rfl, ?_⟩
    replace HO_10 := yD (Kd.V_below (kU HO_10) hb); have HO350 := yD (Kd.V_lower (Kd.V_mono (ok' := fun k_ => oB u9 k_ ∧ oB u11 k_ ∧ oB v345 k_) ho0 (fun k_ hk_ => ⟨Or.elim hk_ (fun hs_ => fun e_ => Nat.not_le.2 hs_ (Kd.S_base HO_9.out k_ e_.symm)) (fun hn_ => (Kd.fresh' (Kd.S_lt (kS HO_9)) k_ hn_)), Or.elim hk_ (fun hs_ => fun e_ => Nat.not_le.2 hs_ (Kd.S_base HO_11.out k_ e_.symm)) (fun hn_ => (Kd.fresh' (Kd.S_lt (kS HO_11)) k_ hn_)), Or.elim hk_ (fun hs_ => fun e_ => Nat.not_le.2 hs_ (Kd.S_base HO346.out k_ e_.symm)) (fun hn_ => (Kd.fresh' (Kd.S_lt (kS HO346)) k_ hn_))⟩)) (below_size (kB HB))); replace HO_9 := yD (Kd.S_below (kS HO_9) hb); replace HO_11 := yD (Kd.S_below (kS HO_11) hb); replace HO346 := yD (Kd.S_below (kS HO346) hb); replace HB := zX HB hb
    refine hK.out _ _ ⟨HS0_, HS1_⟩ (fun hHeld => ?_)
    clear hK K
    refine nZ 58 ?_
    refine qo 17 12 32767 (some 64) fun K hK => ?_
    refine qg Try.func129 _ ((spec_l07Cross.calls k1 (fun k_ => k_ < w.heap.size) _ _ l2 (rd t338 x13_1) t352 _ ?z1 A34.out).mono ?_)
    (case z1 => exact Kd.V_mk HC2.out (Kd.F_below (Kd.C_F k42_heap HR2.out) (kB HB)))
    rintro e w38 ⟨v353, rfl, ho0, hb⟩
    have HS0_ := (hb.cell (zQ _ _ (hHeld.1))).trans (hHeld.1)
    have HS1_ := (hb.cell (zQ _ _ (hHeld.2))).trans (hHeld.2)
    refine ⟨_, rfl, ?_⟩
    replace HO_10 := yD (Kd.V_below (kU HO_10) hb); replace HO350 := yD (Kd.V_below (kU HO350) hb); have HO354 := yD (Kd.V_lower (Kd.V_mono (ok' := fun k_ => oB u9 k_ ∧ oB u11 k_ ∧ oB v345 k_) ho0 (fun k_ hk_ => ⟨Or.elim hk_ (fun hs_ => fun e_ => Nat.not_le.2 hs_ (Kd.S_base HO_9.out k_ e_.symm)) (fun hn_ => (Kd.fresh' (Kd.S_lt (kS HO_9)) k_ hn_)), Or.elim hk_ (fun hs_ => fun e_ => Nat.not_le.2 hs_ (Kd.S_base HO_11.out k_ e_.symm)) (fun hn_ => (Kd.fresh' (Kd.S_lt (kS HO_11)) k_ hn_)), Or.elim hk_ (fun hs_ => fun e_ => Nat.not_le.2 hs_ (Kd.S_base HO346.out k_ e_.symm)) (fun hn_ => (Kd.fresh' (Kd.S_lt (kS HO346)) k_ hn_))⟩)) (below_size (kB HB))); replace HO_9 := yD (Kd.S_below (kS HO_9) hb); replace HO_11 := yD (Kd.S_below (kS HO_11) hb); replace HO346 := yD (Kd.S_below (kS HO346) hb); replace HB := zX HB hb
    obtain ⟨Ao39, co39, eo39⟩ := Kd.V_slice HO350.out
    (first | subst eo39 | (injection eo39 with f1_ f2_ f3_; have f4_ := f1_.symm; have f5_ := f3_.symm; clear f1_ f2_ f3_; subst f4_; subst f5_))
    obtain ⟨Ao40, co40, eo40⟩ := Kd.V_slice HO354.out
    (first | subst eo40 | (injection eo40 with f1_ f2_ f3_; have f4_ := f1_.symm; have f5_ := f3_.symm; clear f1_ f2_ f3_; subst f4_; subst f5_))
    refine hK.out _ _ ⟨HS0_, HS1_⟩ (fun hHeld => ?_)
    clear hK K
    refine nZ 64 ?_
    refine qo 17 15 65535 (some 67) fun K hK => ?_
    refine qg Try.func97 _ ((ih k1 (by have := HK1.out; omega) a0 _ _ t348 _ _ t352 (wrap64 (a3 - 1)) t355 _ ?z1 ?z2 ?z3 ?z4 A35.out).mono ?_)
    (case z1 => exact kV (Kd.V_reads' HO350.out).2.2)
    (case z2 => exact (Kd.V_reads' HO350.out).2.1)
    (case z3 => exact kV (Kd.V_reads' HO354.out).2.2)
    (case z4 => exact (Kd.V_reads' HO354.out).2.1)
    rintro e w41 ⟨v356, rfl, ho0, hb⟩
    have HS0_ := (hb.cell (zQ _ _ (hHeld.1))).trans (hHeld.1)
    have HS1_ := (hb.cell (zQ _ _ (hHeld.2))).trans (hHeld.2)
    refine ⟨_, rfl, ?_⟩
    replace HO_10 := yD (Kd.V_elder' (kU HO_10) (Kd.S_base ho0) hb); replace HO350 := yD (Kd.V_elder' (kU HO350) (Kd.S_base ho0) hb); replace HO354 := yD (Kd.V_elder' (kU HO354) (Kd.S_base ho0) hb); have HO357 := yD (zG (zD (zD (zD ho0 (Kd.S_lt (kS HO_9))) (Kd.S_lt (kS HO_11))) (Kd.S_lt (kS HO346))) (below_size (kB HB))); replace HO_9 := yD (Kd.S_elder' (kS HO_9) (Kd.S_base ho0) hb); replace HO_11 := yD (Kd.S_elder' (kS HO_11) (Kd.S_base ho0) hb); replace HO346 := yD (Kd.S_elder' (kS HO346) (Kd.S_base ho0) hb); replace HB := zX HB hb
    refine hK.out _ _ ⟨HS0_, HS1_⟩ (fun hHeld => ?_)
    clear hK K
    refine nZ 67 ?_
    refine qa 17 16 131071 ?_
    refine qd ?_
    try go_wp2
    go_meet
    case rel => exact ⟨_, (t355), H', ⟨by have := HK1.out; first | omega | exact Nat.le_refl _⟩, ⟨mS HO_9 (fun _ hk => ⟨hk.1.1, hk.2⟩)⟩, ⟨mV HO_10 (fun _ hk => ⟨hk.1.1.1, ⟨hk.1.1.2, hk.2⟩⟩)⟩, ⟨mS HO_11 (fun _ hk => ⟨hk.1.1, hk.2⟩)⟩, ⟨mS HO357 (fun _ hk => ⟨hk.1.1.2, hk.1.2⟩)⟩, ⟨kR1 HB⟩⟩
   case rest =>
    clear HC27
    obtain ⟨kq, x14_26, HA, HJ26, HO_9, HO_10, HO_11, HO_14, HB⟩ := hcut
    cases kq with
    | zero => exact absurd HA.out (by simp [spec_l07Combine.j1])
    | succ kj26 =>
     have H := HA.out; clear HA
     simp only [spec_l07Combine.j1] at H
     have HC42 := yD H
     clear H
     go_upto_region 15 with (fail)
     go_cut [74] (fun v74 wc => ∃ (kq : Nat) (x74_41 : Bool), v74 = .bool x74_41 ∧ Aside0 (spec_l07Combine.j2 kq a0 l1 l2 a3 x9_1 t338 x11_1 x12_1 x13_1 x14_26 x74_41 = some r) ∧ Aside0 (kq ≤ kj26) ∧ Aside0 (Kd.S k42 42 wc w.heap.size (fun k_ => oB u11 k_ ∧ oB u14 k_) u9 x9_1) ∧ Aside0 (Kd.V (Kd.int .i64) 2 wc w.heap.size (fun k_ => oB u9 k_ ∧ oB u11 k_ ∧ oB u14 k_) (.slice Ao28 t338.length co28) t338) ∧ Aside0 (Kd.S k42 42 wc w.heap.size (fun k_ => oB u9 k_ ∧ oB u14 k_) u11 x11_1) ∧ Aside0 (Kd.S k42 42 wc w.heap.size (fun k_ => oB u9 k_ ∧ oB u11 k_) u14 x14_26) ∧ Aside0 (Below w.heap.size w wc))
     case first =>
      have H := HC42.out; clear HC42
      replace H := sC H; rcases H with ⟨c43, H⟩ | ⟨c43, H⟩
      ·
       have c43b0 : decide (0 < x13_1) = false := zS c43; clear c43
       (first | rw [c43b0] | (simp only [i64_w, i32_w]; rw [c43b0]) | (simp only [bne] at c43b0; rw [c43b0]) | skip)
       have H' := yD H
       clear H
       go_wp2
       go_meet
       case rel => exact ⟨_, (false), kF, H', ⟨by have := HK1.out; have := HJ26.out; first | omega | exact Nat.le_refl _⟩, ⟨kS HO_9⟩, ⟨kU HO_10⟩, ⟨kS HO_11⟩, ⟨kS HO_14⟩, ⟨kR1 HB⟩⟩
      have c43b0 : decide (0 < x13_1) = true := zR c43; clear c43
      (first | rw [c43b0] | (simp only [i64_w, i32_w]; rw [c43b0]) | (simp only [bne] at c43b0; rw [c43b0]) | skip)
      replace ⟨t358, A44, H⟩ := sV H
      have H' := yD H
      clear H
      obtain ⟨Ao45, co45, eo45⟩ := Kd.S_slice HO_14.out
      subst eo45
      obtain ⟨Ao46, co46, eo46⟩ := Kd.S_slice HO_11.out
      subst eo46
      go_wp2_with (first | (go_at_call 130; (with_reducible refine (spec_l07Same.calls kj26 _ _ x14_26 _ _ x11_1 t358 _ ?z1 ?z3 A44.out).mono ?_); (case z1 => exact ⟨kV (Kd.S_reads' HO_14.out).2.2, (Kd.S_reads' HO_14.out).2.1⟩); (case z3 => exact ⟨kV (Kd.S_reads' HO_11.out).2.2, (Kd.S_reads' HO_11.out).2.1⟩); rintro e w47 ⟨rfl, hb⟩; replace HO_9 := yD (Kd.S_below (kS HO_9) hb); replace HO_10 := yD (Kd.V_below (kU HO_10) hb); replace HO_11 := yD (Kd.S_below (kS HO_11) hb); replace HO_14 := yD (Kd.S_below (kS HO_14) hb); replace HB := zX HB hb; clear hb))
      go_meet
      case rel => exact ⟨_, (t358), kF, H', ⟨by have := HK1.out; have := HJ26.out; first | omega | exact Nat.le_refl _⟩, ⟨kS HO_9⟩, ⟨kU HO_10⟩, ⟨kS HO_11⟩, ⟨kS HO_14⟩, ⟨kR1 HB⟩⟩
     case rest =>
      clear HC42
      obtain ⟨kq, x74_41, rfl, HA, HJ41, HO_9, HO_10, HO_11, HO_14, HB⟩ := hcut
      cases kq with
      | zero => exact absurd HA.out (by simp [spec_l07Combine.j2])
      | succ kj41 =>
       have H := HA.out; clear HA
       simp only [spec_l07Combine.j2] at H
       replace H := sT H; rcases H with ⟨rfl, H⟩ | ⟨rfl, H⟩
       · have H' := yD H
         clear H
         go_wp2
         go_roundg kj41
         case measure => have := HK1.out; have := HJ26.out; have := HJ41.out; omega
         case rel => exact ⟨(x9_1), (x11_1), (x12_1), (wrap64 (x13_1 + 1)), kF, kF, H', ⟨by have := HK1.out; have := HJ26.out; have := HJ41.out; omega⟩, ⟨mS HO_9 (fun _ hk => hk.1)⟩, ⟨mV HO_10 (fun _ hk => ⟨hk.1, hk.2.1⟩)⟩, ⟨mS HO_11 (fun _ hk => hk.1)⟩, ⟨kR1 HB⟩⟩
       have H' := yD H
       clear H
       go_wp2
       go_loopg [9, 15] kj41 (fun kq v9 v15 w' => ∃ (x9_4 : List (S42)) (x15_4 : Int), v15 = .int .i64 x15_4 ∧ Aside0 (spec_l07Combine.l1 kq a0 l1 l2 a3 x9_4 t338 x11_1 x12_1 x13_1 x14_26 x15_4 = some r) ∧ Aside0 (kq ≤ kj41) ∧ Aside0 (Kd.S k42 42 w' w.heap.size (fun k_ => oB u11 k_ ∧ oB u14 k_) v9 x9_4) ∧ Aside0 (Kd.V (Kd.int .i64) 2 w' w.heap.size (fun k_ => oB v9 k_ ∧ oB u11 k_ ∧ oB u14 k_) (.slice Ao28 t338.length co28) t338) ∧ Aside0 (Kd.S k42 42 w' w.heap.size (fun k_ => oB v9 k_ ∧ oB u14 k_) u11 x11_1) ∧ Aside0 (Kd.S k42 42 w' w.heap.size (fun k_ => oB v9 k_ ∧ oB u11 k_) u14 x14_26) ∧ Aside0 (Below w.heap.size w w'))
       case atStart => exact ⟨(x9_1), (0), kF, H', ⟨Nat.le_refl _⟩, ⟨kS HO_9⟩, ⟨kU HO_10⟩, ⟨kS HO_11⟩, ⟨kS HO_14⟩, ⟨kR1 HB⟩⟩
       case round =>
        clear H'
        obtain ⟨x9_4, x15_4, rfl, HA, HK4, HO_9, HO_10, HO_11, HO_14, HB⟩ := hrel
        cases gk with
        | zero => exact absurd HA.out (by simp [spec_l07Combine.l1])
        | succ k4 =>
         have H := HA.out; clear HA
         simp only [spec_l07Combine.l1] at H
         replace H := sG H; rcases H with ⟨c49b0, H⟩ | ⟨c49b0, H⟩
         ·
          replace ⟨c67b0, H⟩ := sE H
          replace ⟨c68b0, H⟩ := sE H
          have H' := yD H
          clear H
          obtain ⟨Ao69, co69, eo69⟩ := Kd.S_slice HO_11.out
          subst eo69
          obtain ⟨p377, q377, ad377, e377, hx377_0⟩ := sI (Kd.at_int (Kd.V_reads' HO_10.out).2.2 x13_1)
          cases e377
          go_wp2
          go_roundg k4
          case measure => have := HK1.out; have := HJ26.out; have := HJ41.out; have := HK4.out; omega
          case rel => exact ⟨(x9_4), (x14_26), (rd t338 x13_1), (wrap64 (x13_1 + 1)), kF, kF, H', ⟨by have := HK1.out; have := HJ26.out; have := HJ41.out; have := HK4.out; omega⟩, ⟨mS HO_9 (fun _ hk => hk.2)⟩, ⟨mV HO_10 (fun _ hk => ⟨hk.1, hk.2.2⟩)⟩, ⟨mS HO_14 (fun _ hk => hk.1)⟩, ⟨kR1 HB⟩⟩
         generalize hy359 : ((([x12_1] : List Int)) : List Int) = y359 at H
         have Ny359 := yD hy359.symm
         clear hy359
         replace ⟨c50b0, H⟩ := sE H
         replace ⟨LMc51, H⟩ := sM H
         generalize hy363 : ((y359 ++ ((rd_T42 x11_1 x15_4).f0)) : List Int) = y363 at H
         have Ny363 := yD hy363.symm
         clear hy363
         replace ⟨c52b0, H⟩ := sE H
         replace ⟨c53b0, H⟩ := sE H
         generalize hy367 : ((([rd t338 x13_1] : List Int)) : List Int) = y367 at H
         have Ny367 := yD hy367.symm
         clear hy367
         replace ⟨LMc54, H⟩ := sM H
         generalize hy371 : ((y367 ++ ((rd_T42 x11_1 x15_4).f1)) : List Int) = y371 at H
         have Ny371 := yD hy371.symm
         clear hy371
         replace ⟨LMc55, H⟩ := sM H
         generalize hy374 : ((x9_4 ++ [(⟨y363, y371⟩ : S42)]) : List (S42)) = y374 at H
         have Ny374 := yD hy374.symm
         clear hy374
         have H' := yD H
         clear H
         obtain ⟨Ao56, co56, eo56⟩ := Kd.S_slice HO_11.out
         subst eo56
         try go_wp2_with (first | ((with_reducible refine gate_dst (N := 82) rfl ?_); refine Kd.R_lit (Kd.int .i64) _ 2 ?hg (N := 82) ?hd (xs := ([x12_1] : List Int)) (inner := [.int .i64 x12_1]) (ok := fun _ => True) (okp := fun _ => True) ?hr ?hp (fun _ hk => hk) trivial (Below.refl _ _) (Nat.le_refl _) (by simp) ?_; (case hd => rfl); (case hg => rfl); (case hr => first | (go_simp; done) | (go_simp; rfl)); (case hp => exact (Reps.one (show Kd.M (Kd.int .i64) _ _ _ x12_1 [.int .i64 x12_1] from rfl) (Reps.none _ _))); intro v360 w57 ho58 hb hg_ hnew_; clear hg_ hnew_; (first | rw [← Ny359.out] at ho58 | (simp only [Int.reduceToNat] at ho58; rw [← Ny359.out] at ho58)); replace HO_9 := yD (Kd.S_elder' (kS HO_9) (yH ho58) hb); replace HO_10 := yD (Kd.V_elder' (kU HO_10) (yH ho58) hb); replace HO_11 := yD (Kd.S_elder' (kS HO_11) (yH ho58) hb); replace HO_14 := yD (Kd.S_elder' (kS HO_14) (yH ho58) hb); have HO361 := yD (yZ ho58 (below_size (kB HB))); replace HB := zX HB hb; clear hb ho58; have p362 : 0 ≤ (x15_4 : Int) := zP (by assumption); have q362 : x15_4 < (x11_1.length : Int) := zP (by assumption); obtain ⟨ad362, A362_0, c362_0, A362_1, c362_1, e362, hx362_0, hx362_1, HC362_0, HR362_0, HC362_1, HR362_1⟩ := at_T42 (Kd.S_reads' HO_11.out).2.2 x15_4 p362 q362; cases e362; obtain ⟨ce362, hce362, hMe362, hcc362⟩ := Kd.S_get HO_11.out z42 x15_4 p362 (by first | exact q362 | exact zP (by assumption) | (have e_ := (Kd.S_reads' HO_11.out).1; omega)); obtain ⟨ve362_0, ve362_1, rfl, ge362_0, ge362_1⟩ := k42_openM hMe362; have hv362_0 := hcc362 0 _ rfl; rw [Nat.add_zero] at hv362_0; replace hv362_0 := Option.some.inj (hv362_0.symm.trans hx362_0); rw [hv362_0] at ge362_0; have HL362_0 := yD (show Kd.R (Kd.int .i64) 2 _ _ _ _ ((rd_T42 x11_1 x15_4).f0) from ge362_0); clear hv362_0 ge362_0; have hv362_1 := hcc362 1 _ rfl; rw [add_field _ _ 1 (by omega)] at hv362_1; replace hv362_1 := Option.some.inj (hv362_1.symm.trans hx362_1); rw [hv362_1] at ge362_1; have HL362_1 := yD (show Kd.R (Kd.int .i64) 2 _ _ _ _ ((rd_T42 x11_1 x15_4).f1) from ge362_1); clear hv362_1 ge362_1; clear hcc362 hce362; replace p362 := eq_true p362; replace q362 := eq_true q362) | ((with_reducible refine gate_builtin (b := .append) (xs := #[.tmp 82, .tmp 87]) rfl ?_); at_builtin; refine Kd.R_append_rows (Kd.int .i64) (w0 := w) w.heap.size rfl (.tmp 82) (.tmp 87) 36 2 (.int .i64 0) 8 rfl Try.underlying36 info2 rfl (by decide) (by omega) v360 y359 ((rd_T42 x11_1 x15_4).f0) _ _ _ (fun _ => True) (fun _ => False) rfl rfl ?aO ?aR (fun _ _ h => h) (fun _ h => h.elim) ?aF ?aB ?aS ?aL ?_; (case aR => repeat (first | exact (by repeat (first | (with_reducible exact HR362_0.out) | (with_reducible first | refine yV ?_ _ | refine yW ?_ _ | refine yX ?_) | exact HR362_0.out)) | (with_reducible first | refine yV ?_ _ | refine yW ?_ _ | refine yX ?_))); (case aB => exact (kB HB)); (case aF => exact (fun _ _ => trivial)); (case aO => exact (kA HO361)); (case aS => exact (below_size (kB HB))); (case aL => have := LMc51.out; omega); intro v364 w59 ho hb hg hat; rw [← Ny363.out] at ho; replace HO_9 := yD (Kd.S_after (ok := (fun k_ => oB (.slice (some ad362) x11_1.length co56) k_ ∧ oB u14 k_)) (kS HO_9) hg hat); replace HO_10 := yD (Kd.V_afterv (ok := (fun k_ => oB u9 k_ ∧ oB (.slice (some ad362) x11_1.length co56) k_ ∧ oB u14 k_)) (kU HO_10) hg hat); replace HO_11 := yD (Kd.S_after (ok := (fun k_ => oB u9 k_ ∧ oB u14 k_)) (kS HO_11) hg hat); replace HO_14 := yD (Kd.S_after (ok := (fun k_ => oB u9 k_ ∧ oB (.slice (some ad362) x11_1.length co56) k_)) (kS HO_14) hg hat); replace HL362_0 := yD (Kd.R_after (ok := (fun k_ => oB u9 k_ ∧ oB (.slice (some ad362) x11_1.length co56) k_ ∧ oB u14 k_)) (mR HL362_0 (fun _ hk => ⟨⟨hk.1.1.1, ⟨hk.2, hk.1.1.2⟩⟩, hk.1.2⟩)) hg hat); replace HL362_1 := yD (Kd.R_after (ok := (fun k_ => oB u9 k_ ∧ oB (.slice (some ad362) x11_1.length co56) k_ ∧ oB u14 k_)) (mR HL362_1 (fun _ hk => ⟨⟨hk.1.1.1, ⟨hk.2, hk.1.1.2⟩⟩, hk.1.2⟩)) hg hat); replace HB := yD (hb); have HO365 := yD (ho); clear HO361; clear ho hb hg hat))
         replace HO_9 := yD (yU HO_9.out); replace HO_10 := yD (Kd.V_drew HO_10.out); replace HO_11 := yD (yU HO_11.out); replace HO_14 := yD (yU HO_14.out); replace HL362_0 := yD (yC HL362_0.out); replace HL362_1 := yD (yC HL362_1.out); replace HO365 := yD (yC HO365.out); replace HB := yD (yP HB.out)
         obtain ⟨p366, q366, ad366, e366, hx366_0⟩ := sI (Kd.at_int (Kd.V_reads' HO_10.out).2.2 x13_1)
         cases e366
         have p370 : 0 ≤ (x15_4 : Int) := zP (by assumption)
         have q370 : x15_4 < (x11_1.length : Int) := zP (by assumption)
         obtain ⟨ad370, A370_0, c370_0, A370_1, c370_1, e370, hx370_0, hx370_1, HC370_0, HR370_0, HC370_1, HR370_1⟩ := at_T42 (Kd.S_reads' HO_11.out).2.2 x15_4 p370 q370
         obtain rfl : ad362 = ad370 := (by injection e370)
         obtain ⟨ce370, hce370, hMe370, hcc370⟩ := Kd.S_get HO_11.out z42 x15_4 p370 (by first | exact q370 | exact zP (by assumption) | (have e_ := (Kd.S_reads' HO_11.out).1; omega))
         obtain ⟨ve370_0, ve370_1, rfl, ge370_0, ge370_1⟩ := k42_openM hMe370
         have hv370_0 := hcc370 0 _ rfl
         rw [Nat.add_zero] at hv370_0
         replace hv370_0 := Option.some.inj (hv370_0.symm.trans hx370_0)
         rw [hv370_0] at ge370_0
         have HL370_0 := yD (show Kd.R (Kd.int .i64) 2 _ _ _ _ ((rd_T42 x11_1 x15_4).f0) from ge370_0)
         clear hv370_0 ge370_0
         have hv370_1 := hcc370 1 _ rfl
         rw [add_field _ _ 1 (by omega)] at hv370_1
         replace hv370_1 := Option.some.inj (hv370_1.symm.trans hx370_1)
         rw [hv370_1] at ge370_1
         have HL370_1 := yD (show Kd.R (Kd.int .i64) 2 _ _ _ _ ((rd_T42 x11_1 x15_4).f1) from ge370_1)
         clear hv370_1 ge370_1 hcc370 hce370
         replace p370 := eq_true p370; replace q370 := eq_true q370
         refine start_ (n := 12) (S := fun w' => w'.cell? (ad366.add (x13_1).toNat) = some (.int .i64 (rd t338 x13_1)) ∧ w'.cell? (ad362.add ((x15_4).toNat * 2)) = some (.slice A370_0 ((rd_T42 x11_1 x15_4).f0).length c370_0) ∧ w'.cell? ⟨(ad362.add ((x15_4).toNat * 2)).block, (ad362.add ((x15_4).toNat * 2)).off + 1, none⟩ = some (.slice A370_1 ((rd_T42 x11_1 x15_4).f1).length c370_1)) (ds := [10]) (bz 12 0) (by kernel_rfl) rfl rfl ⟨hx366_0, hx370_0, hx370_1⟩ (fun hHeld => ?_); refine with_tabW spec_l07Combine.tab20 spec_l07Combine.bits20 (fun HT_ HW_ => ?_)
         generalize w59.drew = w60 at HO_9 HO_10 HO_11 HO_14 HL362_0 HL362_1 HO365 HB HL370_0 HL370_1 HR370_0 HR370_1 hx366_0 hx370_0 hx370_1 hHeld ⊢
         refine qa 12 0 1 ?_; refine qa 12 1 3 ?_; refine qa 12 2 7 ?_; refine qa 12 5 39 ?_; refine qa 12 6 103 ?_; refine qa 12 7 231 ?_; refine qa 12 8 487 ?_; refine qc 12 3 495 hHeld ?_; refine qc 12 9 1007 hHeld ?_
         refine qo 12 4 1023 (some 93) fun K hK => ?_
         refine Kd.R_lit_step (Kd.int .i64) _ 2 ?hg (N := 93) ?hd (xs := ([rd t338 x13_1] : List Int)) (inner := [.int .i64 (rd t338 x13_1)]) (ok := fun _ => True) (okp := fun _ => True) ?hr ?hp (fun _ hk => hk) trivial (Below.refl _ _) (Nat.le_refl _) (by simp) ?_; (case hd => rfl); (case hg => rfl); (case hr => first | (go_simp; done) | (go_simp; rfl)); (case hp => exact (Reps.one (show Kd.M (Kd.int .i64) _ _ _ (rd t338 x13_1) [.int .i64 (rd t338 x13_1)] from rfl) (Reps.none _ _)))
         intro v368 w61 ho62 hb hg_ hnew_
         have HS0_ := (hb.cell (zQ _ _ (hHeld.1))).trans (hHeld.1)
         have HS1_ := (hb.cell (zQ _ _ (hHeld.2.1))).trans (hHeld.2.1)
         have HS2_ := (hb.cell (zQ _ _ (hHeld.2.2))).trans (hHeld.2.2)
         clear hg_ hnew_
         (first | rw [← Ny367.out] at ho62 | (simp only [Int.reduceToNat] at ho62; rw [← Ny367.out] at ho62))
         have n0_ := yD (Kd.S_elder' (kS HO_9) (yH ho62) hb)
         have n1_ := yD (Kd.V_elder' (kU HO_10) (yH ho62) hb)
         have n2_ := yD (Kd.S_elder' (kS HO_11) (yH ho62) hb)
         have n3_ := yD (Kd.S_elder' (kS HO_14) (yH ho62) hb)
         have n4_ := yD (Kd.R_elder' (kA HL362_0) (yH ho62) hb)
         have n5_ := yD (Kd.R_elder' (kA HL362_1) (yH ho62) hb)
         have n6_ := yD (Kd.R_elder' (kA HO365) (yH ho62) hb)
         have n7_ := yD (Kd.R_elder' (kA HL370_0) (yH ho62) hb)
         have n8_ := yD (Kd.R_elder' (kA HL370_1) (yH ho62) hb)
         have n9_ := yD (yZ (yJ (yJ (yJ (yJ (yJ ho62 (yK (kA HL362_0))) (yK (kA HL362_1))) (yK (kA HO365))) (yK (kA HL370_0))) (yK (kA HL370_1))) (below_size (kB HB)))
         have n10_ := yD (yY (by repeat (first | (with_reducible exact HR370_0.out) | (with_reducible first | refine yV ?_ _ | refine yW ?_ _ | refine yX ?_) | exact HR370_0.out)) hb)
         have n11_ := yD (yY (by repeat (first | (with_reducible exact HR370_1.out) | (with_reducible first | refine yV ?_ _ | refine yW ?_ _ | refine yX ?_) | exact HR370_1.out)) hb)
         have n12_ := yD (zC (kB HB) hb)
         clear HO_9 HO_10 HO_11 HO_14 HL362_0 HL362_1 HO365 HL370_0 HL370_1 HR370_0 HR370_1 HB; have HO_9 := n0_; have HO_10 := n1_; have HO_11 := n2_; have HO_14 := n3_; have HL362_0 := n4_; have HL362_1 := n5_; have HO365 := n6_; have HL370_0 := n7_; have HL370_1 := n8_; have HO369 := n9_; have HR370_0 := n10_; have HR370_1 := n11_; have HB := n12_; clear n0_ n1_ n2_ n3_ n4_ n5_ n6_ n7_ n8_ n9_ n10_ n11_ n12_ hb ho62
         refine hK.out _ _ ⟨HS0_, HS1_, HS2_⟩ (fun hHeld => ?_)
         clear hK K
         refine nZ 93 ?_
         refine last_ (i := 10) (N := some 99) #[true, true, true, true, true, true, true, true, true, true, true, false] rfl rfl (one_of HT_.out (by kernel_rfl)) (by decide) (fun K hK => ?_)
         refine Kd.R_append_rows_step (Kd.int .i64) (w0 := w) w.heap.size (by rfl) (.tmp 93) (.tmp 98) 36 2 (.int .i64 0) 8 rfl Try.underlying36 info2 rfl (by decide) (by omega) v368 y367 ((rd_T42 x11_1 x15_4).f1) _ _ _ (fun k_ => some k_ ≠ (.slice A362_0 ((rd_T42 x11_1 x15_4).f0).length c362_0 : Value).ownBlock ∧ some k_ ≠ (.slice A362_1 ((rd_T42 x11_1 x15_4).f1).length c362_1 : Value).ownBlock ∧ oB v364 k_ ∧ some k_ ≠ (.slice A370_0 ((rd_T42 x11_1 x15_4).f0).length c370_0 : Value).ownBlock ∧ some k_ ≠ (.slice A370_1 ((rd_T42 x11_1 x15_4).f1).length c370_1 : Value).ownBlock) (fun _ => False) rfl rfl ?aO ?aR (fun _ _ h => h) (fun _ h => h.elim) ?aF ?aB ?aS ?aL ?_
         (case aR => repeat (first | exact (by repeat (first | (with_reducible exact HR370_1.out) | (with_reducible first | refine yV ?_ _ | refine yW ?_ _ | refine yX ?_) | exact HR370_1.out)) | (with_reducible first | refine yV ?_ _ | refine yW ?_ _ | refine yX ?_)))
         (case aB => exact (kB HB))
         (case aF => exact (fun k_ hk => ⟨Kd.fresh' (yK (kA HL362_0)) k_ hk, Kd.fresh' (yK (kA HL362_1)) k_ hk, Kd.fresh' (yK (kA HO365)) k_ hk, Kd.fresh' (yK (kA HL370_0)) k_ hk, Kd.fresh' (yK (kA HL370_1)) k_ hk⟩))
         (case aO => exact (mR HO369 (fun _ hk => ⟨hk.1.1.1.1.2, ⟨hk.1.1.1.2, ⟨hk.1.1.2, ⟨hk.1.2, hk.2⟩⟩⟩⟩)))
         (case aS => exact (below_size (kB HB)))
         (case aL => have := LMc54.out; omega)
         intro v372 w63 ho hb hg hat
         rw [← Ny371.out] at ho
         have n0_ := yD (Kd.S_after (ok := (fun k_ => oB (.slice (some ad362) x11_1.length co56) k_ ∧ oB u14 k_ ∧ oB v364 k_)) (mS HO_9 (fun _ hk => ⟨⟨hk.1.1.1, ⟨hk.1.1.2, hk.1.2⟩⟩, hk.2⟩)) hg hat)
         have n1_ := yD (Kd.V_afterv (ok := (fun k_ => oB u9 k_ ∧ oB (.slice (some ad362) x11_1.length co56) k_ ∧ oB u14 k_ ∧ oB v364 k_)) (mV HO_10 (fun _ hk => ⟨⟨hk.1.1.1, ⟨hk.1.1.2.1, ⟨hk.1.1.2.2, hk.1.2⟩⟩⟩, hk.2⟩)) hg hat)
         have n2_ := yD (Kd.S_after (ok := (fun k_ => oB u9 k_ ∧ oB u14 k_ ∧ oB v364 k_)) (mS HO_11 (fun _ hk => ⟨⟨hk.1.1.1, ⟨hk.1.1.2, hk.1.2⟩⟩, hk.2⟩)) hg hat)
         have n3_ := yD (Kd.S_after (ok := (fun k_ => oB u9 k_ ∧ oB (.slice (some ad362) x11_1.length co56) k_ ∧ oB v364 k_)) (mS HO_14 (fun _ hk => ⟨⟨hk.1.1.1, ⟨hk.1.1.2, hk.1.2⟩⟩, hk.2⟩)) hg hat)
         have n4_ := yD (Kd.R_after (ok := (fun k_ => oB u9 k_ ∧ oB (.slice (some ad362) x11_1.length co56) k_ ∧ oB u14 k_ ∧ oB v364 k_)) (mR HL362_0 (fun _ hk => ⟨⟨hk.1.1.1, ⟨hk.1.1.2.1, ⟨hk.1.1.2.2, hk.1.2⟩⟩⟩, hk.2⟩)) hg hat)
         have n5_ := yD (Kd.R_after (ok := (fun k_ => oB u9 k_ ∧ oB (.slice (some ad362) x11_1.length co56) k_ ∧ oB u14 k_ ∧ oB v364 k_)) (mR HL362_1 (fun _ hk => ⟨⟨hk.1.1.1, ⟨hk.1.1.2.1, ⟨hk.1.1.2.2, hk.1.2⟩⟩⟩, hk.2⟩)) hg hat)
         have n6_ := yD (Kd.R_after (ok := (fun _ => True)) (kA HO365) hg hat)
         have n7_ := yD (Kd.R_after (ok := (fun k_ => oB u9 k_ ∧ oB (.slice (some ad362) x11_1.length co56) k_ ∧ oB u14 k_ ∧ oB v364 k_)) (mR HL370_0 (fun _ hk => ⟨⟨hk.1.1.1.1, ⟨hk.1.2, ⟨hk.1.1.1.2, hk.1.1.2⟩⟩⟩, hk.2⟩)) hg hat)
         have n8_ := yD (Kd.R_after (ok := (fun k_ => oB u9 k_ ∧ oB (.slice (some ad362) x11_1.length co56) k_ ∧ oB u14 k_ ∧ oB v364 k_)) (mR HL370_1 (fun _ hk => ⟨⟨hk.1.1.1.1, ⟨hk.1.2, ⟨hk.1.1.1.2, hk.1.1.2⟩⟩⟩, hk.2⟩)) hg hat)
         have n9_ := yD (hb)
         have n10_ := yD (ho)
         clear HO_9 HO_10 HO_11 HO_14 HL362_0 HL362_1 HO365 HL370_0 HL370_1 HB HO369; have HO_9 := n0_; have HO_10 := n1_; have HO_11 := n2_; have HO_14 := n3_; have HL362_0 := n4_; have HL362_1 := n5_; have HO365 := n6_; have HL370_0 := n7_; have HL370_1 := n8_; have HB := n9_; have HO373 := n10_; clear n0_ n1_ n2_ n3_ n4_ n5_ n6_ n7_ n8_ n9_ n10_ ho hb hg hat
         refine hK.out _ _ ?_
         clear hK K
         refine nZ 99 ?_
         refine qa 12 11 4095 ?_
         refine qd ?_
         obtain ⟨Ao64, co64, eo64⟩ := Kd.R_slice HO373.out
         subst eo64
         obtain ⟨Ao65, co65, eo65⟩ := Kd.R_slice HO365.out
         subst eo65
         try go_wp2_with (first | ((with_reducible refine gate_builtin (b := .append) (xs := #[.tmp 100, .tmp 104]) rfl ?_); at_builtin; refine Kd.S_append k42 (w0 := w) w.heap.size rfl (.tmp 100) (.tmp 104) 24 42 (.agg #[(.slice none 0 0), (.slice none 0 0)]) 48 rfl Try.underlying24 info42 rfl (by decide) (by omega) u9 x9_4 (⟨y363, y371⟩ : S42) [.slice Ao65 y363.length co65, .slice Ao64 y371.length co64] (fun k_ => oB (.slice (some ad362) x11_1.length co56) k_ ∧ oB u14 k_) (fun k_ => some k_ = (.slice Ao65 y363.length co65 : Value).ownBlock ∨ some k_ = (.slice Ao64 y371.length co64 : Value).ownBlock) rfl rfl ?aP (fun k_ hk_ => hk_.elim (fun h_ => ((zF (ok' := fun k_ => ((fun k_ => oB (.slice (some ad362) x11_1.length co56) k_ ∧ oB u14 k_)) k_ ∧ oB u9 k_) (Kd.R_apart' (Kd.R_apart' (Kd.R_apart' (HO365.out) (Kd.S_typed HO_11.out) (by decide)) (Kd.S_typed HO_14.out) (by decide)) (Kd.S_typed HO_9.out) (by decide)) (fun k_ hk => ⟨⟨hk.1.1.2, hk.1.2⟩, hk.2⟩))).1 k_ h_.symm) (fun h_ => ((zF (ok' := fun k_ => ((fun k_ => oB (.slice (some ad362) x11_1.length co56) k_ ∧ oB u14 k_)) k_ ∧ oB u9 k_) (Kd.R_apart' (Kd.R_apart' (Kd.R_apart' (HO373.out) (Kd.S_typed HO_11.out) (by decide)) (Kd.S_typed HO_14.out) (by decide)) (Kd.S_typed HO_9.out) (by decide)) (fun k_ hk => ⟨⟨hk.1.1.2, hk.1.2⟩, hk.2⟩))).1 k_ h_.symm)) ?aF ?aO ?aB ?aS ?aL ?_; (case aP => exact k42_mkM _ _ _ (⟨y363, y371⟩ : S42) (zF (Kd.R_tight rfl (zF (ok' := fun k_ => ((fun k_ => oB (.slice (some ad362) x11_1.length co56) k_ ∧ oB u14 k_)) k_ ∧ oB u9 k_) (Kd.R_apart' (Kd.R_apart' (Kd.R_apart' (HO365.out) (Kd.S_typed HO_11.out) (by decide)) (Kd.S_typed HO_14.out) (by decide)) (Kd.S_typed HO_9.out) (by decide)) (fun k_ hk => ⟨⟨hk.1.1.2, hk.1.2⟩, hk.2⟩))) (fun _ h_ => Or.inl h_)) (zF (Kd.R_tight rfl (zF (ok' := fun k_ => ((fun k_ => oB (.slice (some ad362) x11_1.length co56) k_ ∧ oB u14 k_)) k_ ∧ oB u9 k_) (Kd.R_apart' (Kd.R_apart' (Kd.R_apart' (HO373.out) (Kd.S_typed HO_11.out) (by decide)) (Kd.S_typed HO_14.out) (by decide)) (Kd.S_typed HO_9.out) (by decide)) (fun k_ hk => ⟨⟨hk.1.1.2, hk.1.2⟩, hk.2⟩))) (fun _ h_ => Or.inr (h_)))); (case aB => exact (kB HB)); (case aF => exact (fun k_ hk => ⟨Kd.fresh' (Kd.S_lt (kS HO_11)) k_ hk, Kd.fresh' (Kd.S_lt (kS HO_14)) k_ hk⟩)); (case aO => exact (mS HO_9 (fun k_ hk => ⟨⟨hk.1.1, hk.1.2.1⟩, fun e_ => e_.elim (fun h_ => hk.1.2.2 h_) (fun h_ => hk.2 h_)⟩))); (case aS => exact (below_size (kB HB))); (case aL => have := LMc55.out; omega); intro v375 w66 ho hb hg hat; rw [← Ny374.out] at ho; replace HO_10 := yD (Kd.V_afterv (ok := (fun k_ => oB (.slice (some ad362) x11_1.length co56) k_ ∧ oB u14 k_ ∧ oB (.slice Ao65 y363.length co65) k_ ∧ oB (.slice Ao64 y371.length co64) k_)) (mV HO_10 (fun _ hk => ⟨⟨hk.1.2.1, ⟨hk.1.2.2.1, ⟨hk.1.2.2.2, hk.2⟩⟩⟩, hk.1.1⟩)) hg hat); replace HO_11 := yD (Kd.S_after (ok := (fun k_ => oB u14 k_ ∧ oB (.slice Ao65 y363.length co65) k_ ∧ oB (.slice Ao64 y371.length co64) k_)) (mS HO_11 (fun _ hk => ⟨⟨hk.1.2.1, ⟨hk.1.2.2, hk.2⟩⟩, hk.1.1⟩)) hg hat); replace HO_14 := yD (Kd.S_after (ok := (fun k_ => oB (.slice (some ad362) x11_1.length co56) k_ ∧ oB (.slice Ao65 y363.length co65) k_ ∧ oB (.slice Ao64 y371.length co64) k_)) (mS HO_14 (fun _ hk => ⟨⟨hk.1.2.1, ⟨hk.1.2.2, hk.2⟩⟩, hk.1.1⟩)) hg hat); replace HL362_0 := yD (Kd.R_after (ok := (fun k_ => oB (.slice (some ad362) x11_1.length co56) k_ ∧ oB u14 k_ ∧ oB (.slice Ao65 y363.length co65) k_ ∧ oB (.slice Ao64 y371.length co64) k_)) (mR HL362_0 (fun _ hk => ⟨⟨hk.1.2.1, ⟨hk.1.2.2.1, ⟨hk.1.2.2.2, hk.2⟩⟩⟩, hk.1.1⟩)) hg hat); replace HL362_1 := yD (Kd.R_after (ok := (fun k_ => oB (.slice (some ad362) x11_1.length co56) k_ ∧ oB u14 k_ ∧ oB (.slice Ao65 y363.length co65) k_ ∧ oB (.slice Ao64 y371.length co64) k_)) (mR HL362_1 (fun _ hk => ⟨⟨hk.1.2.1, ⟨hk.1.2.2.1, ⟨hk.1.2.2.2, hk.2⟩⟩⟩, hk.1.1⟩)) hg hat); replace HL370_0 := yD (Kd.R_after (ok := (fun k_ => oB (.slice (some ad362) x11_1.length co56) k_ ∧ oB u14 k_ ∧ oB (.slice Ao65 y363.length co65) k_ ∧ oB (.slice Ao64 y371.length co64) k_)) (mR HL370_0 (fun _ hk => ⟨⟨hk.1.2.1, ⟨hk.1.2.2.1, ⟨hk.1.2.2.2, hk.2⟩⟩⟩, hk.1.1⟩)) hg hat); replace HL370_1 := yD (Kd.R_after (ok := (fun k_ => oB (.slice (some ad362) x11_1.length co56) k_ ∧ oB u14 k_ ∧ oB (.slice Ao65 y363.length co65) k_ ∧ oB (.slice Ao64 y371.length co64) k_)) (mR HL370_1 (fun _ hk => ⟨⟨hk.1.2.1, ⟨hk.1.2.2.1, ⟨hk.1.2.2.2, hk.2⟩⟩⟩, hk.1.1⟩)) hg hat); replace HB := yD (hb); have HO376 := yD (ho); clear HO_9 HO365 HO373; clear ho hb hg hat))
         go_roundg k4
         case measure => have := HK1.out; have := HJ26.out; have := HJ41.out; have := HK4.out; omega
         case rel => exact ⟨(y374), (wrap64 (x15_4 + 1)), kF, H', ⟨by have := HK1.out; have := HJ26.out; have := HJ41.out; have := HK4.out; omega⟩, ⟨kS HO376⟩, ⟨mV HO_10 (fun _ hk => ⟨hk.2, ⟨hk.1.1, hk.1.2.1⟩⟩)⟩, ⟨mS HO_11 (fun _ hk => ⟨hk.2, hk.1.1⟩)⟩, ⟨mS HO_14 (fun _ hk => ⟨hk.2, hk.1.1⟩)⟩, ⟨kR1 HB⟩⟩
/-! ### spec_l07Of: function 84 -/
def spec_l07Of.j0 : Nat → List Int → Bool → Int → List Int → List Int → List Int → List Int → List (S110) → Option ((List (S42)))
 | 0, _, _, _, _, _, _, _, _ => none
 | k + 1, x0, x12, x379000, x379001, x379002, x379003, x379004, x379005 => if x12 = true then (if 0 ≤ (x0.length : Int) then (if ((x0.length : Int) : Int).toNat ≤ 35184372088832 then ((spec_l00Own.f x0).bind fun t383 => (some (([(⟨(List.replicate ((x0.length : Int) : Int).toNat 0), t383⟩ : S42)] : List (S42))))) else (none)) else (none)) else ((spec_l06Indices.f k x0 x379000 x379001 x379002 x379003 x379004 x379005).bind fun t389 => ((spec_l07Each.f k x0 t389).bind fun t392 => ((spec_l07Combine.f k 1 t392 ([] : List (S42)) (x0.length : Int)).bind fun t395 => (some t395))))
def spec_l07Of.f (k : Nat) (l0 : List Int) (a1_0 : Int) (l1_1 : List Int) (l1_2 : List Int) (l1_3 : List Int) (l1_4 : List Int) (l1_5 : List (S110)) : Option ((List (S42))) := if a1_0 = 1 then ((spec_l05Count.f k l0).bind fun t379 => (spec_l07Of.j0 k l0 (decide (t379 > 0)) a1_0 l1_1 l1_2 l1_3 l1_4 l1_5)) else (spec_l07Of.j0 k l0 false a1_0 l1_1 l1_2 l1_3 l1_4 l1_5)
def spec_l07Of.T2 : Bool × List (List Nat × List Nat) := (true, [([], []), ([0], [0]), ([1, 1], [1]), ([], []), ([3], [3]), ([2, 4], [2, 4]), ([5], [5]), ([6, 4, 0, 1, 2, 3, 4, 5, 6], [6])])
def spec_l07Of.B2 : List Nat := [0, 1, 3, 0, 8, 31, 63, 127]
theorem spec_l07Of.tab2 : rtab .any (opsOf Try.f84 2) = spec_l07Of.T2 := by kernel_rfl
theorem spec_l07Of.bits2 : waitsOk spec_l07Of.T2.2 spec_l07Of.B2 = true := by kernel_rfl
section
variable {P : Program} {ops : Array Oper} {o : Oper} {a : Act} {Q : Exit → Act → World → Prop} {Kc : Act → World → Prop}
theorem S_lit1_step {α : Type} (d : Kd α) {W : World} (base e : Nat) (hw : Region.wanted o (yielded ops a.tmps) = true) {N : Tmp} (hd : o.dst = some N) (x : α) (inner : List Value)
 (hrun : (execOp a.eval o).run P W = .ok (.value (.slice (some ⟨W.heap.size, 0, none⟩) 1 1)) (W.alloc (.cells inner.toArray e))) (hl : inner.length = d.sz) (hM : d.M W base (fun _ => True) x inner) (hbase : base ≤ W.heap.size)
 (h : ∀ v1 w1, Kd.S d e w1 base (fun _ => True) v1 [x] → Below W.heap.size W w1 → W.grownBy w1 none → (∃ b, v1.ownBlock = some b ∧ W.heap.size ≤ b) → Kc (a.put o.dst v1) w1) : if Region.wanted o (yielded ops a.tmps) = true then Oper.wp P o a W Kc Q else Kc (a.put o.dst undef) W := by
 refine Kd.S_lits_step d (w0 := W) base e hw hd (xs := [x]) (inner := inner) (ok := fun _ => True) (fun j _ => j = 0) hrun (by simpa using hl) (fun j y hj => ?_) (fun i j k hi hj => hi.trans hj.symm) (fun _ _ _ => trivial) trivial (Below.refl _ _) hbase (by simp) (fun v1 w1 hs _ hg hat => h v1 w1 hs ((Below.refl _ _).grown hg (Nat.le_refl _) (fun k hk => by cases hk)) hg hat)
 cases j with
 | zero =>
  simp only [List.getElem?_cons_zero, Option.some.injEq] at hj
  subst hj
  rw [Nat.zero_mul, List.drop_zero, List.take_of_length_le (Nat.le_of_eq hl)]
  exact d.M_mono (fun _ _ => rfl) hM
 | succ j => simp at hj
end
theorem spec_l07Of.calls (k : Nat) (A0 : Option Addr) (c0 : Nat) (l0 : List Int) (a1_0 : Int) (A1_1 : Option Addr) (c1_1 : Nat) (l1_1 : List Int) (A1_2 : Option Addr) (c1_2 : Nat) (l1_2 : List Int) (A1_3 : Option Addr) (c1_3 : Nat) (l1_3 : List Int) (A1_4 : Option Addr) (c1_4 : Nat) (l1_4 : List Int) (A1_5 : Option Addr) (c1_5 : Nat) (l1_5 : List (S110)) (r : List (S42)) (w : World) (C0 : Cm (Kd.int .i64) w A0 c0 l0) (C1_1 : Cm (Kd.int .i64) w A1_1 c1_1 l1_1) (C1_2 : Cm (Kd.int .i64) w A1_2 c1_2 l1_2) (C1_3 : Cm (Kd.int .i64) w A1_3 c1_3 l1_3) (C1_4 : Cm (Kd.int .i64) w A1_4 c1_4 l1_4) (C1_5 : Cm k110 w A1_5 c1_5 l1_5) (h : spec_l07Of.f k l0 a1_0 l1_1 l1_2 l1_3 l1_4 l1_5 = some r) :
 Calls Try.prog 84 #[.slice A0 l0.length c0, .agg #[.int .i64 a1_0, .slice A1_1 l1_1.length c1_1, .slice A1_2 l1_2.length c1_2, .slice A1_3 l1_3.length c1_3, .slice A1_4 l1_4.length c1_4, .slice A1_5 l1_5.length c1_5]] w fun e w' => ∃ v0_ : Value, e = .returned (v0_) ∧ Kd.S k42 42 w' w.heap.size (fun _ => True) v0_ r ∧ Below w.heap.size w w' := by
 have hu55 := Try.underlying55; have hu42 := Try.underlying42
 have HB := yD (Below.refl w.heap.size w)
 have H : (if a1_0 = 1 then ((spec_l05Count.f k l0).bind fun t379 => (spec_l07Of.j0 k l0 (decide (t379 > 0)) a1_0 l1_1 l1_2 l1_3 l1_4 l1_5)) else (spec_l07Of.j0 k l0 false a1_0 l1_1 l1_2 l1_3 l1_4 l1_5)) = some r := h
 clear h
 have HC3 := yD H
 clear H; go_enter Try.func84, Try.ntmps84
 go_upto_region 1 with (first | ((with_reducible refine gate_dst (N := 3) rfl ?_); refine bF (N := 3) (cs := #[.int .i64 a1_0, .slice A1_1 l1_1.length c1_1, .slice A1_2 l1_2.length c1_2, .slice A1_3 l1_3.length c1_3, .slice A1_4 l1_4.length c1_4, .slice A1_5 l1_5.length c1_5]) (t := 55) HB ?_; intro gb378 w4 BK378 GW378 HB))
 (try simp only [Act.put, zH, zI, zJ])
 go_cut [12] (fun v12 wc => ∃ (kq : Nat) (x12_2 : Bool), v12 = .bool x12_2 ∧ Aside0 (spec_l07Of.j0 kq l0 x12_2 a1_0 l1_1 l1_2 l1_3 l1_4 l1_5 = some r) ∧ Aside0 (kq ≤ k) ∧ Aside0 (wc.heap[gb378]? = some (.cells #[.int .i64 a1_0, (.slice A1_1 l1_1.length c1_1), (.slice A1_2 l1_2.length c1_2), (.slice A1_3 l1_3.length c1_3), (.slice A1_4 l1_4.length c1_4), (.slice A1_5 l1_5.length c1_5)] 55 (0, 0))) ∧ Aside0 (Below w.heap.size w wc))
 case first =>
  have H := HC3.out; clear HC3
  replace H := sP H; rcases H with ⟨c5, c5b0, c5b1, H⟩ | ⟨-, c5b0, c5b1, H⟩
  ·
   (first | rw [c5b0] | (simp only [i64_w, i32_w]; rw [c5b0]) | (simp only [bne] at c5b0; rw [c5b0]) | skip)
   have H' := yD H
   clear H
   have := cf6_ BK378.out
   go_wp2
   go_meet
   case rel => exact ⟨_, (false), kF, H', ⟨by first | omega | exact Nat.le_refl _⟩, ⟨kM BK378⟩, ⟨kR0 HB⟩⟩
  (first | rw [c5b0] | (simp only [i64_w, i32_w]; rw [c5b0]) | (simp only [bne] at c5b0; rw [c5b0]) | skip)
  replace ⟨t379, A6, H⟩ := sV H
  have H' := yD H
  clear H
  have := cf6_ BK378.out
  go_wp2_with (first | (go_at_call 91; (with_reducible refine (spec_l05Count.calls k _ _ l0 t379 _ (C0.b HB) A6.out).mono ?_); rintro e w' ⟨rfl, ⟨nd, rfl⟩⟩))
  go_meet
  case rel => exact ⟨_, (decide (t379 > 0)), kF, H', ⟨by first | omega | exact Nat.le_refl _⟩, ⟨kM BK378⟩, ⟨kR0 HB⟩⟩
 case rest =>
  clear HC3
  obtain ⟨kq, x12_2, rfl, HA, HJ2, BK378, HB⟩ := hcut
  cases kq with
  | zero => exact absurd HA.out (by simp [spec_l07Of.j0])
  | succ kj2 =>
   have H := HA.out; clear HA
   simp only [spec_l07Of.j0] at H
   replace H := sS H; rcases H with ⟨rfl, H⟩ | ⟨rfl, H⟩
   ·
    replace ⟨t389, A24, H⟩ := sV H
    replace ⟨t392, A25, H⟩ := sV H
    replace ⟨t395, A26, H⟩ := sV H
    obtain rfl := sJ H
    have := cf6_ BK378.out
    go_wp2_with (first | ((with_reducible refine gate_callee (f := 78) rfl ?_); refine gL 23 Try.func78 _ ((spec_l06Indices.calls kj2 _ _ l0 a1_0 _ _ l1_1 _ _ l1_2 _ _ l1_3 _ _ l1_4 _ _ l1_5 t389 _ (C0.b HB) (C1_1.b HB) (C1_2.b HB) (C1_3.b HB) (C1_4.b HB) (C1_5.b HB) A24.out).mono ?_); rintro e w28 ⟨v390, rfl, ho0, hb⟩; refine ⟨_, rfl, ?_⟩; have HO391 := yD (yZ ho0 (below_size (kB HB))); replace BK378 := zY BK378 hb; replace HB := zX HB hb; clear hb ho0; obtain ⟨Ao29, co29, eo29⟩ := Kd.R_slice HO391.out; subst eo29) | ((with_reducible refine gate_callee (f := 121) rfl ?_); refine gL 24 Try.func121 _ ((spec_l07Each.calls kj2 _ _ l0 _ _ t389 t392 _ (C0.b HB) ?z3 A25.out).mono ?_); (case z3 => exact ⟨kV (zA HO391.out).2.2, (zA HO391.out).2.1⟩); rintro e w30 ⟨v393, rfl, ho0, hb⟩; refine ⟨_, rfl, ?_⟩; have HO394 := yD (zG (zD ho0 (yK (kA HO391))) (below_size (kB HB))); replace HO391 := yD (zE (kA HO391) hb); replace BK378 := zY BK378 hb; replace HB := zX HB hb; clear hb ho0; obtain ⟨Ao31, co31, eo31⟩ := Kd.S_slice HO394.out; subst eo31) | ((with_reducible refine gate_callee (f := 97) rfl ?_); refine gL 27 Try.func97 #[.int .i64 1, .slice Ao31 t392.length co31, .slice none 0 0, .int .i64 (l0.length : Int)] ?_; (refine (spec_l07Combine.calls kj2 1 _ _ t392 _ _ ([] : List (S42)) (l0.length : Int) t395 _ ?z1 ?z2 ?z3 ?z4 A26.out).mono ?_); (case z1 => exact kV (Kd.S_reads' HO394.out).2.2); (case z2 => exact (Kd.S_reads' HO394.out).2.1); (case z3 => exact Kd.C_nil _ _); (case z4 => exact Nat.le_refl _); rintro e w32 ⟨v396, rfl, ho0, hb⟩; refine ⟨_, rfl, ?_⟩; have HO397 := yD (zG (zD (zD ho0 (yK (kA HO391))) (Kd.S_lt (kS HO394))) (below_size (kB HB))); replace HO391 := yD (zE (kA HO391) hb); replace HO394 := yD (Kd.S_elder' (kS HO394) (Kd.S_base ho0) hb); replace BK378 := zY BK378 hb; replace HB := zX HB hb; clear hb ho0))
    go_ret
    exact ⟨_, kE, mS HO397 (fun _ hk => trivial), kR0 HB⟩
   replace ⟨c10, H⟩ := sD H
   have c10b0 := eq_true c10
   have c10b1 : decide (0 ≤ (l0.length : Int)) = true := zR c10; clear c10
   replace ⟨c11, H⟩ := sD H
   have c11b0 := eq_true c11
   have c11b1 : decide (((l0.length : Int) : Int).toNat ≤ 35184372088832) = true := zR c11
   clear c11
   generalize hy380 : ((List.replicate ((l0.length : Int) : Int).toNat 0) : List Int) = y380 at H
   have Ny380 := yD hy380.symm
   clear hy380
   replace ⟨t383, A12, H⟩ := sV H
   obtain ⟨y386, hy386⟩ : ∃ y_ : List (S42), y_ = (([(⟨y380, t383⟩ : S42)] : List (S42))) := ⟨_, rfl⟩
   replace H : (some y386) = some r := by first | (rw [hy386]; with_reducible exact H) | (have H2_ := (Option.bind_some _ _).symm.trans H; rw [hy386]; with_reducible exact H2_) | (have H2_ := (Option.bind_some _ _).symm.trans H; with_reducible exact H2_) | with_reducible exact H | (rw [hy386]; exact H) | exact H
   have Ny386 := yD hy386
   clear hy386; obtain rfl := sJ H
   try go_wp2
   replace BK378 := yD (yO BK378.out); replace HB := yD (yP HB.out)
   refine s0 (m := 8) (S := fun w' => True) spec_l07Of.tab2 spec_l07Of.bits2 trivial fun hHeld HT_ HW_ => ?_
   generalize wc.drew = w13 at BK378 HB hHeld ⊢
   refine qa 8 0 1 ?_; refine qa 8 1 3 ?_; refine qa 8 3 11 ?_
   refine join_ (σ := Value × Value) 3 #[true, true, true, true, true, false, false, false] (fun s_ => [(15, s_.1), (17, s_.2)]) (fun s_ w' => (Kd.R (Kd.int .i64) 2 w' w.heap.size (fun k_ => some k_ ≠ (s_.2 : Value).ownBlock) s_.1 y380) ∧ (Kd.R (Kd.int .i64) 2 w' w.heap.size (fun k_ => some k_ ≠ (s_.1 : Value).ownBlock) s_.2 t383) ∧ (w'.heap[gb378]? = some (.cells #[.int .i64 a1_0, .slice A1_1 l1_1.length c1_1, .slice A1_2 l1_2.length c1_2, .slice A1_3 l1_3.length c1_3, .slice A1_4 l1_4.length c1_4, .slice A1_5 l1_5.length c1_5] 55 (0, 0))) ∧ (Below w.heap.size w w')) ?_ ?_
   rotate_left
   ·
    intro hCont
    refine two_ (i := 2) (j := 4) (Ni := some 15) (Nj := some 17) #[true, true, true, true, false, false, false, false] #[true, true, false, true, true, false, false, false] rfl rfl rfl rfl (two_of HT_.out (by kernel_rfl)) (by decide) (by decide) (fun K hK => ?_) (fun K hK => ?_)
    ·
     skip
     refine Kd.R_make_step (Kd.int .i64) _ 2 (by rfl) (N := 15) rfl 36 _ _ rfl (l0.length : Int) rfl rfl Try.underlying36 (.int .i64 0) 8 info2 rfl (by decide) (by omega) 0 (ok := fun _ => True) (okp := fun _ => True) rfl (fun _ hk => hk) trivial (zP (by assumption)) (Nat.le_trans (Nat.mul_le_mul_right _ (zP (by assumption) : (l0.length : Int).toNat ≤ 35184372088832)) (by omega)) (Below.refl _ _) (Nat.le_refl _) ?_
     intro v381 w14 ho15 hb hg_ hnew_
     clear hg_ hnew_
     (first | rw [← Ny380.out] at ho15 | (simp only [Int.reduceToNat] at ho15; rw [← Ny380.out] at ho15))
     have n0_ := yD (yZ ho15 (below_size (kB HB)))
     have n1_ := yD (zB (kN BK378) hb)
     have n2_ := yD (zC (kB HB) hb)
     clear BK378 HB; have HO382 := n0_; have BK378 := n1_; have HB := n2_; clear n0_ n1_ n2_ hb ho15
     refine hK.out _ _ trivial (fun hHeld => ?_)
     clear hK K
     refine nZ 15 ?_
     refine qo 8 4 31 (some 17) fun K hK => ?_
     refine qg Try.func71 _ ((spec_l00Own.calls _ _ l0 t383 _ (C0.b HB) A12.out).mono ?_)
     rintro e w16 ⟨v384, rfl, ho0, hb⟩
     refine ⟨_, rfl, ?_⟩
     have HO385 := yD (yZ (yJ ho0 (yK (kA HO382))) (below_size (kB HB))); replace HO382 := yD (Kd.R_elder' (kA HO382) (yH ho0) hb); replace BK378 := zY BK378 hb; replace HB := zX HB hb
     obtain ⟨Ao17, co17, eo17⟩ := Kd.R_slice HO385.out
     (first | subst eo17 | (injection eo17 with f1_ f2_ f3_; have f4_ := f1_.symm; have f5_ := f3_.symm; clear f1_ f2_ f3_; subst f4_; subst f5_))
     obtain ⟨Ao18, co18, eo18⟩ := Kd.R_slice HO382.out
     (first | subst eo18 | (injection eo18 with f1_ f2_ f3_; have f4_ := f1_.symm; have f5_ := f3_.symm; clear f1_ f2_ f3_; subst f4_; subst f5_))
     refine hK.out _ _ trivial (fun hHeld => ?_)
     clear hK K
     refine nZ 17 ?_
     exact norm_ (by simp only [putAll, Act.put, zH, zI, zJ]) (hCont (.slice Ao18 y380.length co18, .slice Ao17 t383.length co17) _ ⟨(mR HO382 (fun _ hk => hk.2)), (mR HO385 (fun _ hk => hk.2)), (kM BK378), (kB HB)⟩)
    ·
     skip
     refine qg Try.func71 _ ((spec_l00Own.calls _ _ l0 t383 _ (C0.b HB) A12.out).mono ?_)
     rintro e w14 ⟨v384, rfl, ho0, hb⟩
     refine ⟨_, rfl, ?_⟩
     have HO385 := yD (yZ ho0 (below_size (kB HB))); replace BK378 := zY BK378 hb; replace HB := zX HB hb
     refine hK.out _ _ trivial (fun hHeld => ?_)
     clear hK K
     refine nZ 17 ?_
     refine qo 8 2 31 (some 15) fun K hK => ?_
     refine Kd.R_make_step (Kd.int .i64) _ 2 (by rfl) (N := 15) rfl 36 _ _ rfl (l0.length : Int) rfl rfl Try.underlying36 (.int .i64 0) 8 info2 rfl (by decide) (by omega) 0 (ok := fun _ => True) (okp := fun _ => True) rfl (fun _ hk => hk) trivial (zP (by assumption)) (Nat.le_trans (Nat.mul_le_mul_right _ (zP (by assumption) : (l0.length : Int).toNat ≤ 35184372088832)) (by omega)) (Below.refl _ _) (Nat.le_refl _) ?_
     intro v381 w15 ho16 hb hg_ hnew_
     clear hg_ hnew_
     (first | rw [← Ny380.out] at ho16 | (simp only [Int.reduceToNat] at ho16; rw [← Ny380.out] at ho16))
     have n0_ := yD (Kd.R_elder' (kA HO385) (yH ho16) hb)
     have n1_ := yD (yZ (yJ ho16 (yK (kA HO385))) (below_size (kB HB)))
     have n2_ := yD (zB (kN BK378) hb)
     have n3_ := yD (zC (kB HB) hb)
     clear HO385 BK378 HB; have HO385 := n0_; have HO382 := n1_; have BK378 := n2_; have HB := n3_; clear n0_ n1_ n2_ n3_ hb ho16
     obtain ⟨Ao17, co17, eo17⟩ := Kd.R_slice HO385.out
     (first | subst eo17 | (injection eo17 with f1_ f2_ f3_; have f4_ := f1_.symm; have f5_ := f3_.symm; clear f1_ f2_ f3_; subst f4_; subst f5_))
     obtain ⟨Ao18, co18, eo18⟩ := Kd.R_slice HO382.out
     (first | subst eo18 | (injection eo18 with f1_ f2_ f3_; have f4_ := f1_.symm; have f5_ := f3_.symm; clear f1_ f2_ f3_; subst f4_; subst f5_))
     refine hK.out _ _ trivial (fun hHeld => ?_)
     clear hK K
     refine nZ 15 ?_
     exact norm_ (by simp only [putAll, Act.put, zH, zI, zJ]) (hCont (.slice Ao18 y380.length co18, .slice Ao17 t383.length co17) _ ⟨(mR HO382 (fun _ hk => hk.2)), (mR HO385 (fun _ hk => hk.2)), (kM BK378), (kB HB)⟩)
   rintro ⟨v381, v384⟩ w19 ⟨h0_, h1_, h2_, h3_⟩
   (try dsimp only at h0_ h1_ h2_ h3_); clear BK378 HB; have HO382 := yD h0_; have HO385 := yD h1_; have BK378 := yD h2_; have HB := yD h3_; clear h0_ h1_ h2_ h3_; have hHeld := trivial
   obtain ⟨Ao20, co20, eo20⟩ := Kd.R_slice HO385.out
   (first | subst eo20 | (injection eo20 with f1_ f2_ f3_; have f4_ := f1_.symm; have f5_ := f3_.symm; clear f1_ f2_ f3_; subst f4_; subst f5_))
   obtain ⟨Ao21, co21, eo21⟩ := Kd.R_slice HO382.out
   (first | subst eo21 | (injection eo21 with f1_ f2_ f3_; have f4_ := f1_.symm; have f5_ := f3_.symm; clear f1_ f2_ f3_; subst f4_; subst f5_))
   refine norm_ (a' := ?_) ?_ ?_
   rotate_left
   · simp only [putAll, Act.put, zH, zI, zJ]
     rfl
   refine qa 8 5 63 ?_
   refine qo 8 6 127 (some 19) fun K hK => ?_
   refine S_lit1_step k42 w.heap.size 42 ?hg (N := 19) ?hd (⟨y380, t383⟩ : S42) [.slice Ao21 y380.length co21, .slice Ao20 t383.length co20] ?hr rfl ?hp (below_size (kB HB)) ?_; (case hd => rfl); (case hg => rfl); (case hr => first | (go_simp; done) | (go_simp; rfl)); (case hp => exact k42_mkM _ _ _ (⟨y380, t383⟩ : S42) (zF (kA HO382) (fun _ _ => trivial)) (zF (kA HO385) (fun _ _ => trivial)))
   intro v387 w22 ho23 hb hg_ hnew_
   clear hg_ hnew_
   (first | rw [← Ny386.out] at ho23 | (simp only [Int.reduceToNat] at ho23; rw [← Ny386.out] at ho23))
   have n0_ := yD (ho23)
   have n1_ := yD (zB (kN BK378) hb)
   have n2_ := yD (zC (kB HB) hb)
   clear BK378 HB HO382 HO385; have HO388 := n0_; have BK378 := n1_; have HB := n2_; clear n0_ n1_ n2_ hb ho23
   refine hK.out _ _ trivial (fun hHeld => ?_)
   clear hK K
   refine nZ 19 ?_
   refine qa 8 7 255 ?_
   refine qd ?_
   try go_wp2
   go_ret
   exact ⟨_, kE, kS HO388, kR0 HB⟩

/-! ### spec_BoxesOf: function 47 -/
def spec_BoxesOf.f (k : Nat) (l0 : List Int) (a1_0 : Int) (l1_1 : List Int) (l1_2 : List Int) (l1_3 : List Int) (l1_4 : List Int) (l1_5 : List (S110)) : Option ((List (S42)) × Int) := (spec_l06Valid.f k l0 a1_0 l1_1 l1_2 l1_3 l1_4 l1_5).bind fun t399 => (if t399 = true then ((spec_l07Of.f k l0 a1_0 l1_1 l1_2 l1_3 l1_4 l1_5).bind fun t400 => (if (t400.length : Int) > 32 then (some (([] : List (S42)), 5)) else (some (t400, 0)))) else (some (([] : List (S42)), 1)))
theorem spec_BoxesOf.calls (k : Nat) (A0 : Option Addr) (c0 : Nat) (l0 : List Int) (a1_0 : Int) (A1_1 : Option Addr) (c1_1 : Nat) (l1_1 : List Int) (A1_2 : Option Addr) (c1_2 : Nat) (l1_2 : List Int) (A1_3 : Option Addr) (c1_3 : Nat) (l1_3 : List Int) (A1_4 : Option Addr) (c1_4 : Nat) (l1_4 : List Int) (A1_5 : Option Addr) (c1_5 : Nat) (l1_5 : List (S110)) (r1 : List (S42)) (r2 : Int) (w : World) (C0 : Cm (Kd.int .i64) w A0 c0 l0) (C1_1 : Cm (Kd.int .i64) w A1_1 c1_1 l1_1) (C1_2 : Cm (Kd.int .i64) w A1_2 c1_2 l1_2) (C1_3 : Cm (Kd.int .i64) w A1_3 c1_3 l1_3) (C1_4 : Cm (Kd.int .i64) w A1_4 c1_4 l1_4) (C1_5 : Cm k110 w A1_5 c1_5 l1_5) (h : spec_BoxesOf.f k l0 a1_0 l1_1 l1_2 l1_3 l1_4 l1_5 = some (r1, r2)) :
 Calls Try.prog 47 #[.slice A0 l0.length c0, .agg #[.int .i64 a1_0, .slice A1_1 l1_1.length c1_1, .slice A1_2 l1_2.length c1_2, .slice A1_3 l1_3.length c1_3, .slice A1_4 l1_4.length c1_4, .slice A1_5 l1_5.length c1_5]] w fun e w' => ∃ v0_ : Value, e = .returned (.tuple #[v0_, .int .i64 r2]) ∧ Kd.S k42 42 w' w.heap.size (fun _ => True) v0_ r1 ∧ Below w.heap.size w w' := by
 have hu55 := Try.underlying55
 have HB := yD (Below.refl w.heap.size w)
 have H : ((spec_l06Valid.f k l0 a1_0 l1_1 l1_2 l1_3 l1_4 l1_5).bind fun t399 => (if t399 = true then ((spec_l07Of.f k l0 a1_0 l1_1 l1_2 l1_3 l1_4 l1_5).bind fun t400 => (if (t400.length : Int) > 32 then (some (([] : List (S42)), 5)) else (some (t400, 0)))) else (some (([] : List (S42)), 1)))) = some (r1, r2) := h
 clear h
 replace ⟨t399, A3, H⟩ := sV H
 replace H := sS H; rcases H with ⟨rfl, H⟩ | ⟨rfl, H⟩
 ·
  simp only [Option.some.injEq, Prod.mk.injEq] at H
  obtain ⟨rfl, rfl⟩ := H
  go_enter Try.func47, Try.ntmps47
  go_wp2_with (first | ((with_reducible refine gate_dst (N := 3) rfl ?_); refine bF (N := 3) (cs := #[.int .i64 a1_0, .slice A1_1 l1_1.length c1_1, .slice A1_2 l1_2.length c1_2, .slice A1_3 l1_3.length c1_3, .slice A1_4 l1_4.length c1_4, .slice A1_5 l1_5.length c1_5]) (t := 55) HB ?_; intro gb398 w19 BK398 GW398 HB; have := cf6_ BK398.out) | ((with_reducible refine gate_callee (f := 77) rfl ?_); refine gL 9 Try.func77 _ ((spec_l06Valid.calls k _ _ l0 a1_0 _ _ l1_1 _ _ l1_2 _ _ l1_3 _ _ l1_4 _ _ l1_5 false _ (C0.b HB) (C1_1.b HB) (C1_2.b HB) (C1_3.b HB) (C1_4.b HB) (C1_5.b HB) A3.out).mono ?_); rintro e w21 ⟨rfl, hb⟩; refine ⟨_, rfl, ?_⟩; replace BK398 := zY BK398 hb; replace HB := zX HB hb; clear hb))
  go_ret2
  exact ⟨_, kE, by first | exact Kd.S_nil _ _ _ _ _ | exact Kd.N_nil _ _ _ _ _ | exact Kd.V_nil _ _ _ _ _ | exact Kd.Q_nil _ _ _ _ _ | exact Kd.R_nil _ _ _ _ _, kR0 HB⟩
 replace ⟨t400, A5, H⟩ := sV H
 replace H := sC H; rcases H with ⟨c6, H⟩ | ⟨c6, H⟩
 ·
  have c6b0 : decide (32 < (t400.length : Int)) = false := zS c6
  have c6b1 : decide (32 < t400.length) = false := zS (by omega)
  clear c6
  simp only [Option.some.injEq, Prod.mk.injEq] at H
  obtain ⟨rfl, rfl⟩ := H
  go_enter Try.func47, Try.ntmps47
  go_wp2_with (first | ((with_reducible refine gate_dst (N := 3) rfl ?_); refine bF (N := 3) (cs := #[.int .i64 a1_0, .slice A1_1 l1_1.length c1_1, .slice A1_2 l1_2.length c1_2, .slice A1_3 l1_3.length c1_3, .slice A1_4 l1_4.length c1_4, .slice A1_5 l1_5.length c1_5]) (t := 55) HB ?_; intro gb398 w13 BK398 GW398 HB; have := cf6_ BK398.out) | ((with_reducible refine gate_callee (f := 77) rfl ?_); refine gL 9 Try.func77 _ ((spec_l06Valid.calls k _ _ l0 a1_0 _ _ l1_1 _ _ l1_2 _ _ l1_3 _ _ l1_4 _ _ l1_5 true _ (C0.b HB) (C1_1.b HB) (C1_2.b HB) (C1_3.b HB) (C1_4.b HB) (C1_5.b HB) A3.out).mono ?_); rintro e w15 ⟨rfl, hb⟩; refine ⟨_, rfl, ?_⟩; replace BK398 := zY BK398 hb; replace HB := zX HB hb; clear hb; have := cf6_ BK398.out) | ((with_reducible refine gate_callee (f := 84) rfl ?_); refine gL 13 Try.func84 _ ((spec_l07Of.calls k _ _ l0 a1_0 _ _ l1_1 _ _ l1_2 _ _ l1_3 _ _ l1_4 _ _ l1_5 t400 _ (C0.b HB) (C1_1.b HB) (C1_2.b HB) (C1_3.b HB) (C1_4.b HB) (C1_5.b HB) A5.out).mono ?_); rintro e w17 ⟨v401, rfl, ho0, hb⟩; refine ⟨_, rfl, ?_⟩; have HO402 := yD (zG ho0 (below_size (kB HB))); replace BK398 := zY BK398 hb; replace HB := zX HB hb; clear hb ho0; obtain ⟨Ao18, co18, eo18⟩ := Kd.S_slice HO402.out; subst eo18))
  go_ret2
  exact ⟨_, kE, kS HO402, kR0 HB⟩
 have c6b0 : decide (32 < (t400.length : Int)) = true := zR c6
 have c6b1 : decide (32 < t400.length) = true := zR (by omega)
 clear c6
 simp only [Option.some.injEq, Prod.mk.injEq] at H
 obtain ⟨rfl, rfl⟩ := H
 go_enter Try.func47, Try.ntmps47
 go_wp2_with (first | ((with_reducible refine gate_dst (N := 3) rfl ?_); refine bF (N := 3) (cs := #[.int .i64 a1_0, .slice A1_1 l1_1.length c1_1, .slice A1_2 l1_2.length c1_2, .slice A1_3 l1_3.length c1_3, .slice A1_4 l1_4.length c1_4, .slice A1_5 l1_5.length c1_5]) (t := 55) HB ?_; intro gb398 w7 BK398 GW398 HB; have := cf6_ BK398.out) | ((with_reducible refine gate_callee (f := 77) rfl ?_); refine gL 9 Try.func77 _ ((spec_l06Valid.calls k _ _ l0 a1_0 _ _ l1_1 _ _ l1_2 _ _ l1_3 _ _ l1_4 _ _ l1_5 true _ (C0.b HB) (C1_1.b HB) (C1_2.b HB) (C1_3.b HB) (C1_4.b HB) (C1_5.b HB) A3.out).mono ?_); rintro e w9 ⟨rfl, hb⟩; refine ⟨_, rfl, ?_⟩; replace BK398 := zY BK398 hb; replace HB := zX HB hb; clear hb; have := cf6_ BK398.out) | ((with_reducible refine gate_callee (f := 84) rfl ?_); refine gL 13 Try.func84 _ ((spec_l07Of.calls k _ _ l0 a1_0 _ _ l1_1 _ _ l1_2 _ _ l1_3 _ _ l1_4 _ _ l1_5 t400 _ (C0.b HB) (C1_1.b HB) (C1_2.b HB) (C1_3.b HB) (C1_4.b HB) (C1_5.b HB) A5.out).mono ?_); rintro e w11 ⟨v401, rfl, ho0, hb⟩; refine ⟨_, rfl, ?_⟩; have HO402 := yD (zG ho0 (below_size (kB HB))); replace BK398 := zY BK398 hb; replace HB := zX HB hb; clear hb ho0; obtain ⟨Ao12, co12, eo12⟩ := Kd.S_slice HO402.out; subst eo12))
 go_ret2
 exact ⟨_, kE, by first | exact Kd.S_nil _ _ _ _ _ | exact Kd.N_nil _ _ _ _ _ | exact Kd.V_nil _ _ _ _ _ | exact Kd.Q_nil _ _ _ _ _ | exact Kd.R_nil _ _ _ _ _, kR0 HB⟩

/-! ### impl_within: function 106 -/
def impl_within.f (a0 : Int) (a1 : Int) (a2 : Int) : Option (Bool) := if a0 ≥ a1 then (some (decide (a0 ≤ a2))) else (some false)
theorem impl_within.calls (a0 : Int) (a1 : Int) (a2 : Int) (r : Bool) (w : World) (h : impl_within.f a0 a1 a2 = some r) :
 Calls Try.prog 106 #[.int .i64 a0, .int .i64 a1, .int .i64 a2] w fun e w' => e = .returned (.bool r) ∧ Drawn0 w w' := by
 have H : (if a0 ≥ a1 then (some (decide (a0 ≤ a2))) else (some false)) = some r := h
 clear h
 replace H := sC H; rcases H with ⟨c4, H⟩ | ⟨c4, H⟩
 ·
  have c4b0 : decide (a1 ≤ a0) = false := zS c4; clear c4; obtain rfl := sJ H; go_enter Try.func106, Try.ntmps106
  go_wp2
  go_ret
  exact ⟨by first | rfl | (simp; done) | (simp [*]; done), by repeat (first | exact Drawn0.refl _ | apply Drawn0.step)⟩
 have c4b0 : decide (a1 ≤ a0) = true := zR c4; clear c4; obtain rfl := sJ H; go_enter Try.func106, Try.ntmps106
 go_wp2
 go_ret
 exact ⟨by first | rfl | (simp; done) | (simp [*]; done), by repeat (first | exact Drawn0.refl _ | apply Drawn0.step)⟩

/-! ### impl_allWithin_1: function 152 -/
def impl_allWithin_1.f (a0 : Int) (a1_0 : Int) (a2_0 : Int) : Option (Bool) := (impl_within.f a0 a1_0 a2_0).bind fun t403 => (some (!t403))
theorem impl_allWithin_1.calls (a0 : Int) (g1_0 : Nat) (a1_0 : Int) (g2_0 : Nat) (a2_0 : Int) (r : Bool) (w : World) (hb1_0 : w.heap[g1_0]? = some (.cells #[.int .i64 a1_0] 2 (0, 0))) (hb2_0 : w.heap[g2_0]? = some (.cells #[.int .i64 a2_0] 2 (0, 0))) (h : impl_allWithin_1.f a0 a1_0 a2_0 = some r) :
 Calls Try.prog 152 #[.int .i64 a0, .pointer (some ⟨g1_0, 0, none⟩), .pointer (some ⟨g2_0, 0, none⟩)] w fun e w' => e = .returned (.bool r) ∧ Below w.heap.size w w' := by
 have BK48 := yD hb1_0
 clear hb1_0
 have BK56 := yD hb2_0
 clear hb2_0
 have HB := yD (Below.refl w.heap.size w)
 have H : ((impl_within.f a0 a1_0 a2_0).bind fun t403 => (some (!t403))) = some r := h
 clear h
 replace ⟨t403, A4, H⟩ := sV H
 obtain rfl := sJ H
 have hcz5_0 : w.cell? ⟨g1_0, 0, none⟩ = some (.int .i64 a1_0) := (yG BK48.out 0).trans rfl
 have hfz5_0 := yR BK48.out 0
 have hcz6_0 : w.cell? ⟨g2_0, 0, none⟩ = some (.int .i64 a2_0) := (yG BK56.out 0).trans rfl
 have hfz6_0 := yR BK56.out 0
 go_enter Try.func152, Try.ntmps152
 go_wp2_with (first | ((with_reducible refine gate_callee (f := 106) rfl ?_); refine gL 8 Try.func106 _ (dm (impl_within.calls a0 a1_0 a2_0 t403 _ A4.out) fun nd => ?_)))
 go_ret
 exact ⟨kE, kR0 HB⟩

/-! ### slices_IndexFunc_impl_allWithin_1: function 161 -/
def slices_IndexFunc_impl_allWithin_1.l0 : Nat → List Int → Int → Int → Int → Int → Option (Int)
 | 0, _, _, _, _, _ => none
 | k + 1, x0, x7, x8, x49000, x50000 => if x8 < x7 then (if 0 ≤ x8 then (if x8 < (x0.length : Int) then ((impl_allWithin_1.f (rd x0 x8) x49000 x50000).bind fun t405 => (if t405 = true then (some x8) else (slices_IndexFunc_impl_allWithin_1.l0 k x0 x7 (wrap64 (x8 + 1)) x49000 x50000))) else (none)) else (none)) else (some (-1))
def slices_IndexFunc_impl_allWithin_1.f (k : Nat) (l0 : List Int) (a1_0 : Int) (a1_1 : Int) : Option (Int) := slices_IndexFunc_impl_allWithin_1.l0 k l0 (l0.length : Int) 0 a1_0 a1_1
theorem slices_IndexFunc_impl_allWithin_1.calls (k : Nat) (A0 : Option Addr) (c0 : Nat) (l0 : List Int) (g1_0 : Nat) (g1_1 : Nat) (a1_0 : Int) (a1_1 : Int) (r : Int) (w : World) (C0 : Cm (Kd.int .i64) w A0 c0 l0) (hb1_0 : w.heap[g1_0]? = some (.cells #[.int .i64 a1_0] 2 (0, 0))) (hb1_1 : w.heap[g1_1]? = some (.cells #[.int .i64 a1_1] 2 (0, 0))) (h : slices_IndexFunc_impl_allWithin_1.f k l0 a1_0 a1_1 = some r) :
 Calls Try.prog 161 #[.slice A0 l0.length c0, .func (.func 152) #[] #[.pointer (some ⟨g1_0, 0, none⟩), .pointer (some ⟨g1_1, 0, none⟩)]] w fun e w' => e = .returned (.int .i64 r) ∧ Below w.heap.size w w' := by
 have BK48 := yD hb1_0
 clear hb1_0
 have BK49 := yD hb1_1
 clear hb1_1
 have HB := yD (Below.refl w.heap.size w)
 have H : (slices_IndexFunc_impl_allWithin_1.l0 k l0 (l0.length : Int) 0 a1_0 a1_1) = some r := h
 clear h
 have H' := yD H
 clear H; go_enter Try.func161, Try.ntmps161
 go_wp2
 go_loopg [8] k (fun kq v8 w' => ∃ (x8_1 : Int), v8 = .int .i64 x8_1 ∧ Aside0 (slices_IndexFunc_impl_allWithin_1.l0 kq l0 (l0.length : Int) x8_1 a1_0 a1_1 = some r) ∧ Aside0 (kq ≤ k) ∧ Aside0 (w'.heap[g1_0]? = some (.cells #[.int .i64 a1_0] 2 (0, 0))) ∧ Aside0 (w'.heap[g1_1]? = some (.cells #[.int .i64 a1_1] 2 (0, 0))) ∧ Aside0 (Below w.heap.size w w'))
 case atStart => exact ⟨(0), kF, H', ⟨Nat.le_refl _⟩, ⟨kM BK48⟩, ⟨kM BK49⟩, ⟨kR0 HB⟩⟩
 case round =>
  clear H'
  obtain ⟨x8_1, rfl, HA, HK1, BK48, BK49, HB⟩ := hrel
  cases gk with
  | zero => exact absurd HA.out (by simp [slices_IndexFunc_impl_allWithin_1.l0])
  | succ k1 =>
   have H := HA.out; clear HA
   simp only [slices_IndexFunc_impl_allWithin_1.l0] at H
   replace H := sG H; rcases H with ⟨c3b0, H⟩ | ⟨c3b0, H⟩
   · obtain rfl := sJ H
     go_wp2
     go_ret
     exact ⟨kE, kR0 HB⟩
   replace ⟨c4b0, H⟩ := sE H
   replace ⟨c5b0, H⟩ := sE H
   replace ⟨t405, A6, H⟩ := sV H
   replace H := sT H; rcases H with ⟨rfl, H⟩ | ⟨rfl, H⟩
   ·
    obtain rfl := sJ H
    obtain ⟨p404, q404, ad404, e404, hx404_0⟩ := sI (Kd.at_int C0.r x8_1)
    cases e404
    replace hx404_0 := kD HB hx404_0
    go_wp2_with (first | (go_at_call 152; (with_reducible refine (impl_allWithin_1.calls (rd l0 x8_1) g1_0 a1_0 g1_1 a1_1 true _ ?z1 ?z2 A6.out).mono ?_); (case z1 => exact kM BK48); (case z2 => exact kM BK49); rintro e w8 ⟨rfl, hb⟩; replace BK48 := zY BK48 hb; replace BK49 := zY BK49 hb; replace HB := zX HB hb; clear hb))
    go_ret
    exact ⟨kE, kR0 HB⟩
   have H' := yD H
   clear H
   obtain ⟨p404, q404, ad404, e404, hx404_0⟩ := sI (Kd.at_int C0.r x8_1)
   cases e404
   replace hx404_0 := kD HB hx404_0
   go_wp2_with (first | (go_at_call 152; (with_reducible refine (impl_allWithin_1.calls (rd l0 x8_1) g1_0 a1_0 g1_1 a1_1 false _ ?z1 ?z2 A6.out).mono ?_); (case z1 => exact kM BK48); (case z2 => exact kM BK49); rintro e w9 ⟨rfl, hb⟩; replace BK48 := zY BK48 hb; replace BK49 := zY BK49 hb; replace HB := zX HB hb; clear hb))
   go_roundg k1
   case measure => have := HK1.out; omega
   case rel => exact ⟨(wrap64 (x8_1 + 1)), kF, H', ⟨by have := HK1.out; omega⟩, ⟨kM BK48⟩, ⟨kM BK49⟩, ⟨kR0 HB⟩⟩

/-! ### slices_ContainsFunc_impl_allWithin_1: function 151 -/
def slices_ContainsFunc_impl_allWithin_1.f (k : Nat) (l0 : List Int) (a1_0 : Int) (a1_1 : Int) : Option (Bool) := (slices_IndexFunc_impl_allWithin_1.f k l0 a1_0 a1_1).bind fun t406 => (some (decide (t406 ≥ 0)))
theorem slices_ContainsFunc_impl_allWithin_1.calls (k : Nat) (A0 : Option Addr) (c0 : Nat) (l0 : List Int) (g1_0 : Nat) (g1_1 : Nat) (a1_0 : Int) (a1_1 : Int) (r : Bool) (w : World) (C0 : Cm (Kd.int .i64) w A0 c0 l0) (hb1_0 : w.heap[g1_0]? = some (.cells #[.int .i64 a1_0] 2 (0, 0))) (hb1_1 : w.heap[g1_1]? = some (.cells #[.int .i64 a1_1] 2 (0, 0))) (h : slices_ContainsFunc_impl_allWithin_1.f k l0 a1_0 a1_1 = some r) :
 Calls Try.prog 151 #[.slice A0 l0.length c0, .func (.func 152) #[] #[.pointer (some ⟨g1_0, 0, none⟩), .pointer (some ⟨g1_1, 0, none⟩)]] w fun e w' => e = .returned (.bool r) ∧ Below w.heap.size w w' := by
 have BK48 := yD hb1_0
 clear hb1_0
 have BK49 := yD hb1_1
 clear hb1_1
 have HB := yD (Below.refl w.heap.size w)
 have H : ((slices_IndexFunc_impl_allWithin_1.f k l0 a1_0 a1_1).bind fun t406 => (some (decide (t406 ≥ 0)))) = some r := h
 clear h
 replace ⟨t406, A3, H⟩ := sV H
 obtain rfl := sJ H; go_enter Try.func151, Try.ntmps151
 go_wp2_with (first | ((with_reducible refine gate_callee (f := 161) rfl ?_); refine gL 7 Try.func161 _ ((slices_IndexFunc_impl_allWithin_1.calls k _ _ l0 g1_0 g1_1 a1_0 a1_1 t406 _ ?z1 ?z3 ?z4 A3.out).mono ?_); (case z1 => exact ⟨(by repeat (first | exact C0.r | (with_reducible first | refine yV ?_ _ | refine yW ?_ _ | refine yX ?_))), C0.h⟩); (case z3 => exact kM BK48); (case z4 => exact kM BK49); rintro e w4 ⟨rfl, hb⟩; refine ⟨_, rfl, ?_⟩; replace BK48 := zY BK48 hb; replace BK49 := zY BK49 hb; replace HB := zX HB hb; clear hb))
 go_ret
 exact ⟨kE, kR0 HB⟩

/-! ### impl_allWithin: function 136 -/
def impl_allWithin.f (k : Nat) (l0 : List Int) (a1 : Int) (a2 : Int) : Option (Bool) := (slices_ContainsFunc_impl_allWithin_1.f k l0 a1 a2).bind fun t409 => (some (!t409))
theorem impl_allWithin.calls (k : Nat) (A0 : Option Addr) (c0 : Nat) (l0 : List Int) (a1 : Int) (a2 : Int) (r : Bool) (w : World) (C0 : Cm (Kd.int .i64) w A0 c0 l0) (h : impl_allWithin.f k l0 a1 a2 = some r) :
 Calls Try.prog 136 #[.slice A0 l0.length c0, .int .i64 a1, .int .i64 a2] w fun e w' => e = .returned (.bool r) ∧ Below w.heap.size w w' := by
 have HB := yD (Below.refl w.heap.size w)
 have H : ((slices_ContainsFunc_impl_allWithin_1.f k l0 a1 a2).bind fun t409 => (some (!t409))) = some r := h
 clear h
 replace ⟨t409, A4, H⟩ := sV H
 obtain rfl := sJ H; go_enter Try.func136, Try.ntmps136
 go_wp2_with (first | ((with_reducible refine gate_dst (N := 4) rfl ?_); refine bF (N := 4) (cs := #[.int .i64 a1]) (t := 2) HB ?_; intro gb407 w5 BK407 GW407 HB) | ((with_reducible refine gate_dst (N := 5) rfl ?_); refine bE (N := 5) (cs := #[.int .i64 a2]) (t := 2) ?_; intro gb408 hg w6 hbox hb; have BK408 := yD (hbox); have GW408 := sW hg HB; replace HB := zX HB hb; have NB407_408 := yD ((by rw [hg]; exact Nat.ne_of_lt (blk_lt (kN BK407)) : gb407 ≠ gb408)); have NB408_407 := yD ((by rw [hg]; exact Nat.ne_of_gt (blk_lt (kN BK407)) : gb408 ≠ gb407)); replace BK407 := zY BK407 hb; clear hb hbox hg) | ((with_reducible refine gate_callee (f := 151) rfl ?_); refine gL 9 Try.func151 _ ((slices_ContainsFunc_impl_allWithin_1.calls k _ _ l0 gb407 gb408 a1 a2 t409 _ (C0.b HB) ?z3 ?z4 A4.out).mono ?_); (case z3 => exact kM BK407); (case z4 => exact kM BK408); rintro e w7 ⟨rfl, hb⟩; refine ⟨_, rfl, ?_⟩; replace BK407 := zY BK407 hb; replace BK408 := zY BK408 hb; replace HB := zX HB hb; clear hb))
 go_ret
 exact ⟨kE, kR0 HB⟩

/-! ### impl_product: function 117 -/
def impl_product.l0 : Nat → Int → List Int → Int → Int → Option (Int)
 | 0, _, _, _, _ => none
 | k + 1, x3, x6, x7, x8 => if x8 < x7 then (if 0 ≤ x8 then (if x8 < (x6.length : Int) then (impl_product.l0 k (wrap64 (x3 * (rd x6 x8))) x6 x7 (wrap64 (x8 + 1))) else (none)) else (none)) else (some x3)
def impl_product.f (k : Nat) (l0 : List Int) : Option (Int) := impl_product.l0 k 1 l0 (l0.length : Int) 0
theorem impl_product.calls (k : Nat) (A0 : Option Addr) (c0 : Nat) (l0 : List Int) (r : Int) (w : World) (C0 : Cm (Kd.int .i64) w A0 c0 l0) (h : impl_product.f k l0 = some r) :
 Calls Try.prog 117 #[.slice A0 l0.length c0] w fun e w' => e = .returned (.int .i64 r) ∧ Drawn0 w w' := by
 have H : (impl_product.l0 k 1 l0 (l0.length : Int) 0) = some r := h
 clear h
 have H' := yD H
 clear H; go_enter Try.func117, Try.ntmps117
 go_wp2
 go_loopg [3, 8] k (fun kq v3 v8 w' => ∃ (x3_1 : Int) (x8_1 : Int), v3 = .int .i64 x3_1 ∧ v8 = .int .i64 x8_1 ∧ Aside0 (impl_product.l0 kq x3_1 l0 (l0.length : Int) x8_1 = some r) ∧ Aside0 (kq ≤ k) ∧ Drawn0 w w')
 case atStart => exact ⟨(1), (0), kF, kF, H', ⟨Nat.le_refl _⟩, by repeat (first | exact Drawn0.refl _ | apply Drawn0.step)⟩
 case round =>
  clear H'
  obtain ⟨x3_1, x8_1, rfl, rfl, HA, HK1, ⟨m1, rfl⟩⟩ := hrel
  cases gk with
  | zero => exact absurd HA.out (by simp [impl_product.l0])
  | succ k1 =>
   have H := HA.out; clear HA
   simp only [impl_product.l0] at H
   replace H := sG H; rcases H with ⟨c2b0, H⟩ | ⟨c2b0, H⟩
   · obtain rfl := sJ H
     go_wp2
     go_ret
     exact ⟨by first | rfl | (simp; done) | (simp [*]; done), by repeat (first | exact Drawn0.refl _ | apply Drawn0.step)⟩
   replace ⟨c3b0, H⟩ := sE H
   replace ⟨c4b0, H⟩ := sE H
   have H' := yD H
   clear H
   obtain ⟨p410, q410, ad410, e410, hx410_0⟩ := sI (Kd.at_int C0.r x8_1)
   cases e410
   go_wp2
   go_roundg k1
   case measure => have := HK1.out; omega
   case rel => exact ⟨(wrap64 (x3_1 * (rd l0 x8_1))), (wrap64 (x8_1 + 1)), kF, kF, H', ⟨by have := HK1.out; omega⟩, by repeat (first | exact Drawn0.refl _ | apply Drawn0.step)⟩

/-! ### impl_ValidDims: function 114 -/
def impl_ValidDims.f (k : Nat) (l0 : List Int) : Option (Bool) := if (l0.length : Int) ≤ 3 then ((impl_allWithin.f k l0 0 40).bind fun t411 => (if t411 = true then ((impl_product.f k l0).bind fun t412 => (some (decide (t412 ≤ 600)))) else (some false))) else (some false)
theorem impl_ValidDims.calls (k : Nat) (A0 : Option Addr) (c0 : Nat) (l0 : List Int) (r : Bool) (w : World) (C0 : Cm (Kd.int .i64) w A0 c0 l0) (h : impl_ValidDims.f k l0 = some r) :
 Calls Try.prog 114 #[.slice A0 l0.length c0] w fun e w' => e = .returned (.bool r) ∧ Below w.heap.size w w' := by
 have HB := yD (Below.refl w.heap.size w)
 have H : (if (l0.length : Int) ≤ 3 then ((impl_allWithin.f k l0 0 40).bind fun t411 => (if t411 = true then ((impl_product.f k l0).bind fun t412 => (some (decide (t412 ≤ 600)))) else (some false))) else (some false)) = some r := h
 clear h
 replace H := sC H; rcases H with ⟨c2, H⟩ | ⟨c2, H⟩
 ·
  have c2b0 : decide ((l0.length : Int) ≤ 3) = false := zS c2
  have c2b1 : decide (l0.length ≤ 3) = false := zS (by omega)
  clear c2; obtain rfl := sJ H; go_enter Try.func114, Try.ntmps114
  go_wp2
  go_ret
  exact ⟨kE, kR1 HB⟩
 have c2b0 : decide ((l0.length : Int) ≤ 3) = true := zR c2
 have c2b1 : decide (l0.length ≤ 3) = true := zR (by omega)
 clear c2
 replace ⟨t411, A3, H⟩ := sV H
 replace H := sS H; rcases H with ⟨rfl, H⟩ | ⟨rfl, H⟩
 ·
  obtain rfl := sJ H; go_enter Try.func114, Try.ntmps114
  go_wp2_with (first | (go_at_call 136; (with_reducible refine (impl_allWithin.calls k _ _ l0 0 40 false _ ?z1 A3.out).mono ?_); (case z1 => exact ⟨(by repeat (first | exact C0.r | (with_reducible first | refine yV ?_ _ | refine yW ?_ _ | refine yX ?_))), C0.h⟩); rintro e w7 ⟨rfl, hb⟩; replace HB := zX HB hb; clear hb))
  go_ret
  exact ⟨kE, kR1 HB⟩
 replace ⟨t412, A5, H⟩ := sV H
 obtain rfl := sJ H; go_enter Try.func114, Try.ntmps114
 go_wp2_with (first | (go_at_call 136; (with_reducible refine (impl_allWithin.calls k _ _ l0 0 40 true _ ?z1 A3.out).mono ?_); (case z1 => exact ⟨(by repeat (first | exact C0.r | (with_reducible first | refine yV ?_ _ | refine yW ?_ _ | refine yX ?_))), C0.h⟩); rintro e w6 ⟨rfl, hb⟩; replace HB := zX HB hb; clear hb) | (go_at_call 117; (with_reducible refine (impl_product.calls k _ _ l0 t412 _ (C0.b HB) A5.out).mono ?_); rintro e w' ⟨rfl, ⟨nd, rfl⟩⟩))
 go_ret
 exact ⟨kE, kR1 HB⟩

/-! ### impl_Selection_lists: function 154 -/
def impl_Selection_lists.f (a0_0 : Int) (l0_1 : List Int) (l0_2 : List Int) (l0_3 : List Int) (l0_4 : List Int) (l0_5 : List (S110)) : Option ((List (List Int))) := some (([l0_1, l0_2, l0_3, l0_4] : List (List Int)))
theorem impl_Selection_lists.calls (a0_0 : Int) (P0_1_ : Nat → Prop) (A0_1 : Option Addr) (c0_1 : Nat) (l0_1 : List Int) (P0_2_ : Nat → Prop) (A0_2 : Option Addr) (c0_2 : Nat) (l0_2 : List Int) (P0_3_ : Nat → Prop) (A0_3 : Option Addr) (c0_3 : Nat) (l0_3 : List Int) (P0_4_ : Nat → Prop) (A0_4 : Option Addr) (c0_4 : Nat) (l0_4 : List Int) (A0_5 : Option Addr) (c0_5 : Nat) (l0_5 : List (S110)) (r : List (List Int)) (w : World) (hs0_1 : Kd.V (Kd.int .i64) 2 w w.heap.size (fun k_ => P0_1_ k_) (.slice A0_1 l0_1.length c0_1) l0_1) (hs0_2 : Kd.V (Kd.int .i64) 2 w w.heap.size (fun k_ => P0_2_ k_) (.slice A0_2 l0_2.length c0_2) l0_2) (hs0_3 : Kd.V (Kd.int .i64) 2 w w.heap.size (fun k_ => P0_3_ k_) (.slice A0_3 l0_3.length c0_3) l0_3) (hs0_4 : Kd.V (Kd.int .i64) 2 w w.heap.size (fun k_ => P0_4_ k_) (.slice A0_4 l0_4.length c0_4) l0_4) (C0_5 : Cm k110 w A0_5 c0_5 l0_5) (h : impl_Selection_lists.f a0_0 l0_1 l0_2 l0_3 l0_4 l0_5 = some r) :
 Calls Try.prog 154 #[.agg #[.int .i64 a0_0, .slice A0_1 l0_1.length c0_1, .slice A0_2 l0_2.length c0_2, .slice A0_3 l0_3.length c0_3, .slice A0_4 l0_4.length c0_4, .slice A0_5 l0_5.length c0_5]] w fun e w' => ∃ v0_ : Value, e = .returned (v0_) ∧ Kd.N (Kd.slice 2 (Kd.int .i64)) 36 w' w.heap.size (fun k_ => ((P0_1_ k_ ∨ P0_2_ k_ ∨ P0_3_ k_ ∨ P0_4_ k_) ∨ w.heap.size ≤ k_)) v0_ r ∧ Below w.heap.size w w' := by
 have hu55 := Try.underlying55
 have HO0_1 := yD (show Kd.V (Kd.int .i64) 2 w w.heap.size (fun k_ => ((P0_1_ k_ ∨ P0_2_ k_ ∨ P0_3_ k_ ∨ P0_4_ k_) ∨ w.heap.size ≤ k_)) (.slice A0_1 l0_1.length c0_1) l0_1 from Kd.V_mono hs0_1 (fun k_ hk => .inl (.inl hk)))
 have HO0_2 := yD (show Kd.V (Kd.int .i64) 2 w w.heap.size (fun k_ => ((P0_1_ k_ ∨ P0_2_ k_ ∨ P0_3_ k_ ∨ P0_4_ k_) ∨ w.heap.size ≤ k_)) (.slice A0_2 l0_2.length c0_2) l0_2 from Kd.V_mono hs0_2 (fun k_ hk => .inl (.inr (.inl hk))))
 have HO0_3 := yD (show Kd.V (Kd.int .i64) 2 w w.heap.size (fun k_ => ((P0_1_ k_ ∨ P0_2_ k_ ∨ P0_3_ k_ ∨ P0_4_ k_) ∨ w.heap.size ≤ k_)) (.slice A0_3 l0_3.length c0_3) l0_3 from Kd.V_mono hs0_3 (fun k_ hk => .inl (.inr (.inr (.inl hk)))))
 have HO0_4 := yD (show Kd.V (Kd.int .i64) 2 w w.heap.size (fun k_ => ((P0_1_ k_ ∨ P0_2_ k_ ∨ P0_3_ k_ ∨ P0_4_ k_) ∨ w.heap.size ≤ k_)) (.slice A0_4 l0_4.length c0_4) l0_4 from Kd.V_mono hs0_4 (fun k_ hk => .inl (.inr (.inr (.inr hk)))))
 have HB := yD (Below.refl w.heap.size w)
 have H : (some (([l0_1, l0_2, l0_3, l0_4] : List (List Int)))) = some r := h
 clear h
 obtain ⟨y414, hy414⟩ : ∃ y_ : List (List Int), y_ = (([l0_1, l0_2, l0_3, l0_4] : List (List Int))) := ⟨_, rfl⟩
 replace H : (some y414) = some r := by first | (rw [hy414]; with_reducible exact H) | (have H2_ := (Option.bind_some _ _).symm.trans H; rw [hy414]; with_reducible exact H2_) | (have H2_ := (Option.bind_some _ _).symm.trans H; with_reducible exact H2_) | with_reducible exact H | (rw [hy414]; exact H) | exact H
 have Ny414 := yD hy414
 clear hy414; obtain rfl := sJ H; go_enter Try.func154, Try.ntmps154
 go_wp2_with (first | ((with_reducible refine gate_dst (N := 1) rfl ?_); refine bE (N := 1) (cs := #[.int .i64 a0_0, .slice A0_1 l0_1.length c0_1, .slice A0_2 l0_2.length c0_2, .slice A0_3 l0_3.length c0_3, .slice A0_4 l0_4.length c0_4, .slice A0_5 l0_5.length c0_5]) (t := 55) ?_; intro gb413 hg w2 hbox hb; replace HO0_1 := yD (Kd.V_below (Kd.V_elderB (kU HO0_1) gb413 (Nat.le_of_eq hg.symm)) hb); replace HO0_2 := yD (Kd.V_below (Kd.V_elderB (kU HO0_2) gb413 (Nat.le_of_eq hg.symm)) hb); replace HO0_3 := yD (Kd.V_below (Kd.V_elderB (kU HO0_3) gb413 (Nat.le_of_eq hg.symm)) hb); replace HO0_4 := yD (Kd.V_below (Kd.V_elderB (kU HO0_4) gb413 (Nat.le_of_eq hg.symm)) hb); have BK413 := yD (hbox); have GW413 := sW hg HB; replace HB := zX HB hb; clear hb hbox hg; have := cf6_ BK413.out) | ((with_reducible refine gate_dst (N := 11) rfl ?_); refine Kd.N_lit (Kd.slice 2 (Kd.int .i64)) _ 36 ?hg (N' := 11) ?hd (xs := ([l0_1, l0_2, l0_3, l0_4] : List (List Int))) (inner := [.slice A0_1 l0_1.length c0_1, .slice A0_2 l0_2.length c0_2, .slice A0_3 l0_3.length c0_3, .slice A0_4 l0_4.length c0_4]) (ok := (fun k_ => ((P0_1_ k_ ∨ P0_2_ k_ ∨ P0_3_ k_ ∨ P0_4_ k_) ∨ w.heap.size ≤ k_) ∧ k_ ≠ gb413)) (okp := (fun k_ => ((P0_1_ k_ ∨ P0_2_ k_ ∨ P0_3_ k_ ∨ P0_4_ k_) ∨ w.heap.size ≤ k_) ∧ k_ ≠ gb413)) ?hr ?hp (fun _ hk => hk) ((show ∀ k_, w2.heap.size ≤ k_ → (fun k_ => ((P0_1_ k_ ∨ P0_2_ k_ ∨ P0_3_ k_ ∨ P0_4_ k_) ∨ w.heap.size ≤ k_) ∧ k_ ≠ gb413) k_ from fun k_ hk => ⟨(.inr (Nat.le_trans (below_size (kB HB)) hk)), Kd.freshB (g := gb413) (o := .cells #[.int .i64 a0_0, .slice A0_1 l0_1.length c0_1, .slice A0_2 l0_2.length c0_2, .slice A0_3 l0_3.length c0_3, .slice A0_4 l0_4.length c0_4, .slice A0_5 l0_5.length c0_5] 55 (0, 0)) (kM BK413) k_ hk⟩) _ (Nat.le_refl _)) (Below.refl _ _) (Nat.le_refl _) (by simp) ?_; (case hd => rfl); (case hg => rfl); (case hr => first | (go_simp; done) | (go_simp; rfl)); (case hp => exact (Reps.one (show Kd.FK (Kd.slice 2 (Kd.int .i64)) _ _ l0_1 [.slice A0_1 l0_1.length c0_1] from (Kd.FK_slice_mk (Kd.V_reads' (Kd.V_mono (ok' := (fun k_ => ((P0_1_ k_ ∨ P0_2_ k_ ∨ P0_3_ k_ ∨ P0_4_ k_) ∨ w.heap.size ≤ k_) ∧ k_ ≠ gb413)) (HO0_1.out) (fun k_ hk => ⟨hk.1, hk.2⟩))).2.1 (Kd.V_F (Kd.V_mono (ok' := (fun k_ => ((P0_1_ k_ ∨ P0_2_ k_ ∨ P0_3_ k_ ∨ P0_4_ k_) ∨ w.heap.size ≤ k_) ∧ k_ ≠ gb413)) (HO0_1.out) (fun k_ hk => ⟨hk.1, hk.2⟩))))) (Reps.one (show Kd.FK (Kd.slice 2 (Kd.int .i64)) _ _ l0_2 [.slice A0_2 l0_2.length c0_2] from (Kd.FK_slice_mk (Kd.V_reads' (Kd.V_mono (ok' := (fun k_ => ((P0_1_ k_ ∨ P0_2_ k_ ∨ P0_3_ k_ ∨ P0_4_ k_) ∨ w.heap.size ≤ k_) ∧ k_ ≠ gb413)) (HO0_2.out) (fun k_ hk => ⟨hk.1, hk.2⟩))).2.1 (Kd.V_F (Kd.V_mono (ok' := (fun k_ => ((P0_1_ k_ ∨ P0_2_ k_ ∨ P0_3_ k_ ∨ P0_4_ k_) ∨ w.heap.size ≤ k_) ∧ k_ ≠ gb413)) (HO0_2.out) (fun k_ hk => ⟨hk.1, hk.2⟩))))) (Reps.one (show Kd.FK (Kd.slice 2 (Kd.int .i64)) _ _ l0_3 [.slice A0_3 l0_3.length c0_3] from (Kd.FK_slice_mk (Kd.V_reads' (Kd.V_mono (ok' := (fun k_ => ((P0_1_ k_ ∨ P0_2_ k_ ∨ P0_3_ k_ ∨ P0_4_ k_) ∨ w.heap.size ≤ k_) ∧ k_ ≠ gb413)) (HO0_3.out) (fun k_ hk => ⟨hk.1, hk.2⟩))).2.1 (Kd.V_F (Kd.V_mono (ok' := (fun k_ => ((P0_1_ k_ ∨ P0_2_ k_ ∨ P0_3_ k_ ∨ P0_4_ k_) ∨ w.heap.size ≤ k_) ∧ k_ ≠ gb413)) (HO0_3.out) (fun k_ hk => ⟨hk.1, hk.2⟩))))) (Reps.one (show Kd.FK (Kd.slice 2 (Kd.int .i64)) _ _ l0_4 [.slice A0_4 l0_4.length c0_4] from (Kd.FK_slice_mk (Kd.V_reads' (Kd.V_mono (ok' := (fun k_ => ((P0_1_ k_ ∨ P0_2_ k_ ∨ P0_3_ k_ ∨ P0_4_ k_) ∨ w.heap.size ≤ k_) ∧ k_ ≠ gb413)) (HO0_4.out) (fun k_ hk => ⟨hk.1, hk.2⟩))).2.1 (Kd.V_F (Kd.V_mono (ok' := (fun k_ => ((P0_1_ k_ ∨ P0_2_ k_ ∨ P0_3_ k_ ∨ P0_4_ k_) ∨ w.heap.size ≤ k_) ∧ k_ ≠ gb413)) (HO0_4.out) (fun k_ hk => ⟨hk.1, hk.2⟩))))) (Reps.none _ _)))))); intro v415 w4 ho5 hb hg_ hnew_; clear hg_ hnew_; (first | rw [← Ny414.out] at ho5 | (simp only [Int.reduceToNat] at ho5; rw [← Ny414.out] at ho5)); replace HO0_1 := yD (Kd.V_elder' (kU HO0_1) (Kd.N_base ho5) hb); replace HO0_2 := yD (Kd.V_elder' (kU HO0_2) (Kd.N_base ho5) hb); replace HO0_3 := yD (Kd.V_elder' (kU HO0_3) (Kd.N_base ho5) hb); replace HO0_4 := yD (Kd.V_elder' (kU HO0_4) (Kd.N_base ho5) hb); have HO416 := yD (Kd.N_lower ho5 (below_size (kB HB))); replace BK413 := zY BK413 hb; replace HB := zX HB hb; clear hb ho5))
 go_ret
 exact ⟨_, kE, mN HO416 (fun _ hk => hk.1), kR0 HB⟩
/-! ### slices_Equal_int64_int64: function 107 -/
def slices_Equal_int64_int64.l0 : Nat → List Int → List Int → Int → Int → Option (Bool)
 | 0, _, _, _, _ => none
 | k + 1, x0, x1, x12, x13 => if x13 < x12 then (if 0 ≤ x13 then (if x13 < (x0.length : Int) then (if x13 < (x1.length : Int) then (if (rd x0 x13) = (rd x1 x13) then (slices_Equal_int64_int64.l0 k x0 x1 x12 (wrap64 (x13 + 1))) else (some false)) else (none)) else (none)) else (none)) else (some true)
def slices_Equal_int64_int64.f (k : Nat) (l0 : List Int) (l1 : List Int) : Option (Bool) := if (l0.length : Int) = (l1.length : Int) then (slices_Equal_int64_int64.l0 k l0 l1 (l0.length : Int) 0) else (some false)
theorem slices_Equal_int64_int64.calls (k : Nat) (A0 : Option Addr) (c0 : Nat) (l0 : List Int) (A1 : Option Addr) (c1 : Nat) (l1 : List Int) (r : Bool) (w : World) (C0 : Cm (Kd.int .i64) w A0 c0 l0) (C1 : Cm (Kd.int .i64) w A1 c1 l1) (h : slices_Equal_int64_int64.f k l0 l1 = some r) :
 Calls Try.prog 107 #[.slice A0 l0.length c0, .slice A1 l1.length c1] w fun e w' => e = .returned (.bool r) ∧ Drawn0 w w' := by
 have H : (if (l0.length : Int) = (l1.length : Int) then (slices_Equal_int64_int64.l0 k l0 l1 (l0.length : Int) 0) else (some false)) = some r := h
 clear h
 replace H := sP H; rcases H with ⟨c3, c3b0, c3b1, H⟩ | ⟨c3, c3b0, c3b1, H⟩
 ·
  have c3b2 : (l0.length == l1.length) = false := by first | simpa using c3 | (simp at c3 ⊢; omega)
  obtain rfl := sJ H; go_enter Try.func107, Try.ntmps107
  go_wp2
  repeat (go_quiet (fail); try go_wp2)
  go_ret
  exact ⟨by first | rfl | (simp; done) | (simp [*]; done), by repeat (first | exact Drawn0.refl _ | apply Drawn0.step)⟩
 have c3b2 : (l0.length == l1.length) = true := by first | simpa using c3 | (simp at c3 ⊢; omega)
 clear c3
 have H' := yD H
 clear H; go_enter Try.func107, Try.ntmps107
 go_wp2
 repeat (go_quiet (fail); try go_wp2)
 go_loopg [13] k (fun kq v13 w' => ∃ (x13_1 : Int), v13 = .int .i64 x13_1 ∧ Aside0 (slices_Equal_int64_int64.l0 kq l0 l1 (l0.length : Int) x13_1 = some r) ∧ Aside0 (kq ≤ k) ∧ Drawn0 w w')
 case atStart => exact ⟨(0), kF, H', ⟨Nat.le_refl _⟩, by repeat (first | exact Drawn0.refl _ | apply Drawn0.step)⟩
 case round =>
  clear H'
  obtain ⟨x13_1, rfl, HA, HK1, ⟨m1, rfl⟩⟩ := hrel
  cases gk with
  | zero => exact absurd HA.out (by simp [slices_Equal_int64_int64.l0])
  | succ k1 =>
   have H := HA.out; clear HA
   simp only [slices_Equal_int64_int64.l0] at H
   replace H := sG H; rcases H with ⟨c4b0, H⟩ | ⟨c4b0, H⟩
   ·
    obtain rfl := sJ H
    go_wp2
    repeat (go_quiet (fail); try go_wp2)
    go_ret
    exact ⟨by first | rfl | (simp; done) | (simp [*]; done), by repeat (first | exact Drawn0.refl _ | apply Drawn0.step)⟩
   replace ⟨c5b0, H⟩ := sE H
   replace ⟨c6b0, H⟩ := sE H
   replace ⟨c7b0, H⟩ := sE H
   replace H := sP H; rcases H with ⟨c8, c8b0, c8b1, H⟩ | ⟨-, c8b0, c8b1, H⟩
   ·
    obtain rfl := sJ H
    obtain ⟨p417, q417, ad417, e417, hx417_0⟩ := sI (Kd.at_int C0.r x13_1)
    cases e417
    obtain ⟨p418, q418, ad418, e418, hx418_0⟩ := sI (Kd.at_int C1.r x13_1)
    cases e418
    go_wp2
    repeat (go_quiet (fail); try go_wp2)
    go_ret
    exact ⟨by first | rfl | (simp; done) | (simp [*]; done), by repeat (first | exact Drawn0.refl _ | apply Drawn0.step)⟩
   have H' := yD H
   clear H
   obtain ⟨p417, q417, ad417, e417, hx417_0⟩ := sI (Kd.at_int C0.r x13_1)
   cases e417
   obtain ⟨p418, q418, ad418, e418, hx418_0⟩ := sI (Kd.at_int C1.r x13_1)
   cases e418
   go_wp2
   repeat (go_quiet (fail); try go_wp2)
   go_roundg k1
   case measure => have := HK1.out; omega
   case rel => exact ⟨(wrap64 (x13_1 + 1)), kF, H', ⟨by have := HK1.out; omega⟩, by repeat (first | exact Drawn0.refl _ | apply Drawn0.step)⟩

/-! ### slices_EqualFunc_slices_Equal_int64_int64: function 153 -/
def slices_EqualFunc_slices_Equal_int64_int64.l0 : Nat → List (List Int) → List (List Int) → Int → Int → Option (Bool)
 | 0, _, _, _, _ => none
 | k + 1, x1, x15, x16, x17 => if x17 < x16 then (if 0 ≤ x17 then (if x17 < (x15.length : Int) then (if x17 < (x1.length : Int) then ((slices_Equal_int64_int64.f k (rd_L1 x15 x17) (rd_L1 x1 x17)).bind fun t421 => (if t421 = true then (slices_EqualFunc_slices_Equal_int64_int64.l0 k x1 x15 x16 (wrap64 (x17 + 1))) else (some false))) else (none)) else (none)) else (none)) else (some true)
def slices_EqualFunc_slices_Equal_int64_int64.f (k : Nat) (l0 : List (List Int)) (l1 : List (List Int))  : Option (Bool) := if (l0.length : Int) = (l1.length : Int) then (slices_EqualFunc_slices_Equal_int64_int64.l0 k l1 l0 (l0.length : Int) 0) else (some false)
theorem slices_EqualFunc_slices_Equal_int64_int64.calls (k : Nat) (A0 : Option Addr) (c0 : Nat) (l0 : List (List Int)) (A1 : Option Addr) (c1 : Nat) (l1 : List (List Int))  (r : Bool) (w : World) (C0 : Cm (Kd.slice 2 (Kd.int .i64)) w A0 c0 l0) (C1 : Cm (Kd.slice 2 (Kd.int .i64)) w A1 c1 l1) (h : slices_EqualFunc_slices_Equal_int64_int64.f k l0 l1 = some r) :
 Calls Try.prog 153 #[.slice A0 l0.length c0, .slice A1 l1.length c1, .func (.func 107) #[] #[]] w fun e w' => e = .returned (.bool r) ∧ Below w.heap.size w w' := by
 have HB := yD (Below.refl w.heap.size w)
 have H : (if (l0.length : Int) = (l1.length : Int) then (slices_EqualFunc_slices_Equal_int64_int64.l0 k l1 l0 (l0.length : Int) 0) else (some false)) = some r := h
 clear h
 replace H := sP H; rcases H with ⟨c4, c4b0, c4b1, H⟩ | ⟨c4, c4b0, c4b1, H⟩
 ·
  have c4b2 : (l0.length == l1.length) = false := by first | simpa using c4 | (simp at c4 ⊢; omega)
  obtain rfl := sJ H; go_enter Try.func153, Try.ntmps153
  go_wp2
  go_ret
  exact ⟨kE, kR1 HB⟩
 have c4b2 : (l0.length == l1.length) = true := by first | simpa using c4 | (simp at c4 ⊢; omega)
 clear c4
 have H' := yD H
 clear H; go_enter Try.func153, Try.ntmps153
 go_wp2
 go_loopg [17] k (fun kq v17 w' => ∃ (x17_1 : Int), v17 = .int .i64 x17_1 ∧ Aside0 (slices_EqualFunc_slices_Equal_int64_int64.l0 kq l1 l0 (l0.length : Int) x17_1 = some r) ∧ Aside0 (kq ≤ k) ∧ Aside0 (Below w.heap.size w w'))
 case atStart => exact ⟨(0), kF, H', ⟨Nat.le_refl _⟩, ⟨kR1 HB⟩⟩
 case round =>
  clear H'
  obtain ⟨x17_1, rfl, HA, HK1, HB⟩ := hrel
  cases gk with
  | zero => exact absurd HA.out (by simp [slices_EqualFunc_slices_Equal_int64_int64.l0])
  | succ k1 =>
   have H := HA.out; clear HA
   simp only [slices_EqualFunc_slices_Equal_int64_int64.l0] at H
   replace H := sG H; rcases H with ⟨c5b0, H⟩ | ⟨c5b0, H⟩
   · obtain rfl := sJ H
     go_wp2
     go_ret
     exact ⟨kE, kR1 HB⟩
   replace ⟨c6b0, H⟩ := sE H
   replace ⟨c7b0, H⟩ := sE H
   replace ⟨c8b0, H⟩ := sE H
   replace ⟨t421, A9, H⟩ := sV H
   replace H := sS H; rcases H with ⟨rfl, H⟩ | ⟨rfl, H⟩
   ·
    obtain rfl := sJ H
    obtain ⟨p419, q419, ad419, A419_0, c419_0, e419, hx419_0, HC419_0, HR419_0⟩ := sI (at_L1 C0.r x17_1)
    cases e419
    replace hx419_0 := kD HB hx419_0
    obtain ⟨p420, q420, ad420, A420_0, c420_0, e420, hx420_0, HC420_0, HR420_0⟩ := sI (at_L1 C1.r x17_1)
    cases e420
    replace hx420_0 := kD HB hx420_0
    go_wp2_with (first | (go_at_call 107; (with_reducible refine (slices_Equal_int64_int64.calls k1 _ _ (rd_L1 l0 x17_1) _ _ (rd_L1 l1 x17_1) false _ (cB HR419_0 HC419_0 HB) (cB HR420_0 HC420_0 HB) A9.out).mono ?_); rintro e w' ⟨rfl, ⟨nd, rfl⟩⟩))
    go_ret
    exact ⟨kE, kR1 HB⟩
   have H' := yD H
   clear H
   obtain ⟨p419, q419, ad419, A419_0, c419_0, e419, hx419_0, HC419_0, HR419_0⟩ := sI (at_L1 C0.r x17_1)
   cases e419
   replace hx419_0 := kD HB hx419_0
   obtain ⟨p420, q420, ad420, A420_0, c420_0, e420, hx420_0, HC420_0, HR420_0⟩ := sI (at_L1 C1.r x17_1)
   cases e420
   replace hx420_0 := kD HB hx420_0
   go_wp2_with (first | (go_at_call 107; (with_reducible refine (slices_Equal_int64_int64.calls k1 _ _ (rd_L1 l0 x17_1) _ _ (rd_L1 l1 x17_1) true _ (cB HR419_0 HC419_0 HB) (cB HR420_0 HC420_0 HB) A9.out).mono ?_); rintro e w' ⟨rfl, ⟨nd, rfl⟩⟩))
   go_roundg k1
   case measure => have := HK1.out; omega
   case rel => exact ⟨(wrap64 (x17_1 + 1)), kF, H', ⟨by have := HK1.out; omega⟩, ⟨kR1 HB⟩⟩

/-! ### impl_samePoint: function 156 -/
def impl_samePoint.f (k : Nat) (l0_0 : List Int) (l1_0 : List Int) : Option (Bool) := (slices_Equal_int64_int64.f k l0_0 l1_0).bind fun t424 => (some t424)
theorem impl_samePoint.calls (k : Nat) (A0_0 : Option Addr) (c0_0 : Nat) (l0_0 : List Int) (A1_0 : Option Addr) (c1_0 : Nat) (l1_0 : List Int) (r : Bool) (w : World) (C0_0 : Cm (Kd.int .i64) w A0_0 c0_0 l0_0) (C1_0 : Cm (Kd.int .i64) w A1_0 c1_0 l1_0) (h : impl_samePoint.f k l0_0 l1_0 = some r) :
 Calls Try.prog 156 #[.agg #[.slice A0_0 l0_0.length c0_0], .agg #[.slice A1_0 l1_0.length c1_0]] w fun e w' => e = .returned (.bool r) ∧ Below w.heap.size w w' := by
 have hu110 := Try.underlying110
 have HB := yD (Below.refl w.heap.size w)
 have H : ((slices_Equal_int64_int64.f k l0_0 l1_0).bind fun t424 => (some t424)) = some r := h
 clear h
 replace ⟨t424, A3, H⟩ := sV H
 obtain rfl := sJ H; go_enter Try.func156, Try.ntmps156
 go_wp2_with (first | ((with_reducible refine gate_dst (N := 2) rfl ?_); refine bF (N := 2) (cs := #[.slice A0_0 l0_0.length c0_0]) (t := 110) HB ?_; intro gb422 w4 BK422 GW422 HB) | ((with_reducible refine gate_dst (N := 3) rfl ?_); refine bE (N := 3) (cs := #[.slice A1_0 l1_0.length c1_0]) (t := 110) ?_; intro gb423 hg w5 hbox hb; have BK423 := yD (hbox); have GW423 := sW hg HB; replace HB := zX HB hb; have NB422_423 := yD ((by rw [hg]; exact Nat.ne_of_lt (blk_lt (kN BK422)) : gb422 ≠ gb423)); have NB423_422 := yD ((by rw [hg]; exact Nat.ne_of_gt (blk_lt (kN BK422)) : gb423 ≠ gb422)); replace BK422 := zY BK422 hb; clear hb hbox hg; have hnb6 := NB422_423.out; have hnc6 := NB423_422.out; have hcz7_0 : w5.cell? ⟨gb422, 0, none⟩ = some (.slice A0_0 l0_0.length c0_0) := (yG BK422.out 0).trans rfl; have hfz7_0 := yR BK422.out 0; have hcz8_0 : w5.cell? ⟨gb423, 0, none⟩ = some (.slice A1_0 l1_0.length c1_0) := (yG BK423.out 0).trans rfl; have hfz8_0 := yR BK423.out 0) | ((with_reducible refine gate_callee (f := 107) rfl ?_); refine gL 9 Try.func107 _ (dm (slices_Equal_int64_int64.calls k _ _ l0_0 _ _ l1_0 t424 _ (C0_0.b HB) (C1_0.b HB) A3.out) fun nd => ?_)))
 go_ret
 exact ⟨kE, kR0 HB⟩

/-! ### slices_EqualFunc_impl_samePoint: function 155 -/
def slices_EqualFunc_impl_samePoint.l0 : Nat → List (S110) → List (S110) → Int → Int → Option (Bool)
 | 0, _, _, _, _ => none
 | k + 1, x1, x15, x16, x17 => if x17 < x16 then (if 0 ≤ x17 then (if x17 < (x15.length : Int) then (if x17 < (x1.length : Int) then ((impl_samePoint.f k ((rd_T110 x15 x17).f0) ((rd_T110 x1 x17).f0)).bind fun t429 => (if t429 = true then (slices_EqualFunc_impl_samePoint.l0 k x1 x15 x16 (wrap64 (x17 + 1))) else (some false))) else (none)) else (none)) else (none)) else (some true)
def slices_EqualFunc_impl_samePoint.f (k : Nat) (l0 : List (S110)) (l1 : List (S110))  : Option (Bool) := if (l0.length : Int) = (l1.length : Int) then (slices_EqualFunc_impl_samePoint.l0 k l1 l0 (l0.length : Int) 0) else (some false)
theorem slices_EqualFunc_impl_samePoint.calls (k : Nat) (A0 : Option Addr) (c0 : Nat) (l0 : List (S110)) (A1 : Option Addr) (c1 : Nat) (l1 : List (S110))  (r : Bool) (w : World) (C0 : Cm k110 w A0 c0 l0) (C1 : Cm k110 w A1 c1 l1) (h : slices_EqualFunc_impl_samePoint.f k l0 l1 = some r) :
 Calls Try.prog 155 #[.slice A0 l0.length c0, .slice A1 l1.length c1, .func (.func 156) #[] #[]] w fun e w' => e = .returned (.bool r) ∧ Below w.heap.size w w' := by
 have hu110 := Try.underlying110
 have HB := yD (Below.refl w.heap.size w)
 have H : (if (l0.length : Int) = (l1.length : Int) then (slices_EqualFunc_impl_samePoint.l0 k l1 l0 (l0.length : Int) 0) else (some false)) = some r := h
 clear h
 replace H := sP H; rcases H with ⟨c4, c4b0, c4b1, H⟩ | ⟨c4, c4b0, c4b1, H⟩
 ·
  have c4b2 : (l0.length == l1.length) = false := by first | simpa using c4 | (simp at c4 ⊢; omega)
  obtain rfl := sJ H; go_enter Try.func155, Try.ntmps155
  go_wp2
  go_ret
  exact ⟨kE, kR1 HB⟩
 have c4b2 : (l0.length == l1.length) = true := by first | simpa using c4 | (simp at c4 ⊢; omega)
 clear c4
 have H' := yD H
 clear H; go_enter Try.func155, Try.ntmps155
 go_wp2
 go_loopg [17] k (fun kq v17 w' => ∃ (x17_1 : Int), v17 = .int .i64 x17_1 ∧ Aside0 (slices_EqualFunc_impl_samePoint.l0 kq l1 l0 (l0.length : Int) x17_1 = some r) ∧ Aside0 (kq ≤ k) ∧ Aside0 (Below w.heap.size w w'))
 case atStart => exact ⟨(0), kF, H', ⟨Nat.le_refl _⟩, ⟨kR1 HB⟩⟩
 case round =>
  clear H'
  obtain ⟨x17_1, rfl, HA, HK1, HB⟩ := hrel
  cases gk with
  | zero => exact absurd HA.out (by simp [slices_EqualFunc_impl_samePoint.l0])
  | succ k1 =>
   have H := HA.out; clear HA
   simp only [slices_EqualFunc_impl_samePoint.l0] at H
   replace H := sG H; rcases H with ⟨c5b0, H⟩ | ⟨c5b0, H⟩
   · obtain rfl := sJ H
     go_wp2
     go_ret
     exact ⟨kE, kR1 HB⟩
   replace ⟨c6b0, H⟩ := sE H
   replace ⟨c7b0, H⟩ := sE H
   replace ⟨c8b0, H⟩ := sE H
   replace ⟨t429, A9, H⟩ := sV H
   replace H := sS H; rcases H with ⟨rfl, H⟩ | ⟨rfl, H⟩
   ·
    obtain rfl := sJ H
    obtain ⟨p425, q425, ad425, A425_0, c425_0, e425, hx425_0, HC425_0, HR425_0⟩ := sI (at_T110 C0.r x17_1)
    cases e425
    replace hx425_0 := kD HB hx425_0
    go_wp2_with (first | ((with_reducible refine gate_dst (N := 8) rfl ?_); refine bF (N := 8) (cs := #[.slice none 0 0]) (t := 110) HB ?_; intro gb426 w18 BK426 GW426 HB; have hcz19_0 : w18.cell? ⟨gb426, 0, none⟩ = some (.slice none 0 0) := (yG BK426.out 0).trans rfl; have hfz19_0 := yR BK426.out 0; have p427 : 0 ≤ (x17_1 : Int) := zP (by assumption); have q427 : x17_1 < (l1.length : Int) := zP (by assumption); obtain ⟨ad427, A427_0, c427_0, e427, hx427_0, HC427_0, HR427_0⟩ := at_T110 C1.r x17_1 p427 q427; cases e427; have hn427_0 : ad427.block ≠ gb426 := Nat.ne_of_lt (Nat.lt_of_lt_of_le (by have := zQ _ _ hx427_0; first | rwa [add_block] at this | exact this) GW426.out); replace hx427_0 := kD HB hx427_0; replace hx427_0 := (cell_far (p := ⟨gb426, 0, none⟩) (by first | (rw [add_block]; exact hn427_0) | (show (Addr.add _ _).block ≠ _; rw [add_block]; exact hn427_0) | exact hn427_0) (.slice A425_0 ((rd_T110 l0 x17_1).f0).length c425_0)).trans hx427_0; clear hn427_0; replace p427 := eq_true p427; replace q427 := eq_true q427) | ((with_reducible refine gate_dst (N := 9) rfl ?_); refine bE (N := 9) (cs := #[.slice none 0 0]) (t := 110) ?_; intro gb428 hg w20 hbox hb; have BK428 := yD (hbox); have GW428 := sW hg HB; replace HB := zX HB hb; have NB426_428 := yD ((by rw [hg]; exact Nat.ne_of_lt (blk_lt (g := gb426) (o := .cells #[.slice A425_0 ((rd_T110 l0 x17_1).f0).length c425_0] 110 (0, 0)) (by (with_reducible repeat (first | refine yM ?_ _ | refine yO ?_ | refine yN ?_ _)); refine blk_put (cs := #[.slice none 0 0]) ?_ 0 _ rfl; (with_reducible repeat (first | refine yM ?_ _ | refine yO ?_ | refine yN ?_ _)); exact BK426.out)) : gb426 ≠ gb428)); have NB428_426 := yD ((by rw [hg]; exact Nat.ne_of_gt (blk_lt (g := gb426) (o := .cells #[.slice A425_0 ((rd_T110 l0 x17_1).f0).length c425_0] 110 (0, 0)) (by (with_reducible repeat (first | refine yM ?_ _ | refine yO ?_ | refine yN ?_ _)); refine blk_put (cs := #[.slice none 0 0]) ?_ 0 _ rfl; (with_reducible repeat (first | refine yM ?_ _ | refine yO ?_ | refine yN ?_ _)); exact BK426.out)) : gb428 ≠ gb426)); replace BK426 := yD (zB (g := gb426) (o := .cells #[.slice A425_0 ((rd_T110 l0 x17_1).f0).length c425_0] 110 (0, 0)) (by (with_reducible repeat (first | refine yM ?_ _ | refine yO ?_ | refine yN ?_ _)); refine blk_put (cs := #[.slice none 0 0]) ?_ 0 _ rfl; (with_reducible repeat (first | refine yM ?_ _ | refine yO ?_ | refine yN ?_ _)); exact BK426.out) hb); clear hb hbox hg; have hnb21 := NB428_426.out; have hnc21 := NB426_428.out; have hcz22_0 : w20.cell? ⟨gb428, 0, none⟩ = some (.slice none 0 0) := (yG BK428.out 0).trans rfl; have hfz22_0 := yR BK428.out 0; have hcz23_0 : w20.cell? ⟨gb426, 0, none⟩ = some (.slice A425_0 ((rd_T110 l0 x17_1).f0).length c425_0) := (yG BK426.out 0).trans rfl; have hfz23_0 := yR BK426.out 0) | (go_at_call 156; (with_reducible refine (impl_samePoint.calls k1 _ _ ((rd_T110 l0 x17_1).f0) _ _ ((rd_T110 l1 x17_1).f0) false _ (cB HR425_0 HC425_0 HB) (cB HR427_0 HC427_0 HB) A9.out).mono ?_); rintro e w24 ⟨rfl, hb⟩; replace BK426 := yD (zB (g := gb426) (o := .cells #[.slice A425_0 ((rd_T110 l0 x17_1).f0).length c425_0] 110 (0, 0)) (by (with_reducible repeat (first | refine yM ?_ _ | refine yO ?_ | refine yN ?_ _)); refine blk_far ?_ NB426_428.out _; (with_reducible repeat (first | refine yM ?_ _ | refine yO ?_ | refine yN ?_ _)); exact BK426.out) hb); replace BK428 := yD (zB (g := gb428) (o := .cells #[.slice A427_0 ((rd_T110 l1 x17_1).f0).length c427_0] 110 (0, 0)) (by (with_reducible repeat (first | refine yM ?_ _ | refine yO ?_ | refine yN ?_ _)); refine blk_put (cs := #[.slice none 0 0]) ?_ 0 _ rfl; (with_reducible repeat (first | refine yM ?_ _ | refine yO ?_ | refine yN ?_ _)); exact BK428.out) hb); replace HB := zX HB hb; clear hb))
    go_ret
    exact ⟨kE, kR0 HB⟩
   have H' := yD H
   clear H
   obtain ⟨p425, q425, ad425, A425_0, c425_0, e425, hx425_0, HC425_0, HR425_0⟩ := sI (at_T110 C0.r x17_1)
   cases e425
   replace hx425_0 := kD HB hx425_0
   go_wp2_with (first | ((with_reducible refine gate_dst (N := 8) rfl ?_); refine bF (N := 8) (cs := #[.slice none 0 0]) (t := 110) HB ?_; intro gb426 w11 BK426 GW426 HB; have hcz12_0 : w11.cell? ⟨gb426, 0, none⟩ = some (.slice none 0 0) := (yG BK426.out 0).trans rfl; have hfz12_0 := yR BK426.out 0; have p427 : 0 ≤ (x17_1 : Int) := zP (by assumption); have q427 : x17_1 < (l1.length : Int) := zP (by assumption); obtain ⟨ad427, A427_0, c427_0, e427, hx427_0, HC427_0, HR427_0⟩ := at_T110 C1.r x17_1 p427 q427; cases e427; have hn427_0 : ad427.block ≠ gb426 := Nat.ne_of_lt (Nat.lt_of_lt_of_le (by have := zQ _ _ hx427_0; first | rwa [add_block] at this | exact this) GW426.out); replace hx427_0 := kD HB hx427_0; replace hx427_0 := (cell_far (p := ⟨gb426, 0, none⟩) (by first | (rw [add_block]; exact hn427_0) | (show (Addr.add _ _).block ≠ _; rw [add_block]; exact hn427_0) | exact hn427_0) (.slice A425_0 ((rd_T110 l0 x17_1).f0).length c425_0)).trans hx427_0; clear hn427_0; replace p427 := eq_true p427; replace q427 := eq_true q427) | ((with_reducible refine gate_dst (N := 9) rfl ?_); refine bE (N := 9) (cs := #[.slice none 0 0]) (t := 110) ?_; intro gb428 hg w13 hbox hb; have BK428 := yD (hbox); have GW428 := sW hg HB; replace HB := zX HB hb; have NB426_428 := yD ((by rw [hg]; exact Nat.ne_of_lt (blk_lt (g := gb426) (o := .cells #[.slice A425_0 ((rd_T110 l0 x17_1).f0).length c425_0] 110 (0, 0)) (by (with_reducible repeat (first | refine yM ?_ _ | refine yO ?_ | refine yN ?_ _)); refine blk_put (cs := #[.slice none 0 0]) ?_ 0 _ rfl; (with_reducible repeat (first | refine yM ?_ _ | refine yO ?_ | refine yN ?_ _)); exact BK426.out)) : gb426 ≠ gb428)); have NB428_426 := yD ((by rw [hg]; exact Nat.ne_of_gt (blk_lt (g := gb426) (o := .cells #[.slice A425_0 ((rd_T110 l0 x17_1).f0).length c425_0] 110 (0, 0)) (by (with_reducible repeat (first | refine yM ?_ _ | refine yO ?_ | refine yN ?_ _)); refine blk_put (cs := #[.slice none 0 0]) ?_ 0 _ rfl; (with_reducible repeat (first | refine yM ?_ _ | refine yO ?_ | refine yN ?_ _)); exact BK426.out)) : gb428 ≠ gb426)); replace BK426 := yD (zB (g := gb426) (o := .cells #[.slice A425_0 ((rd_T110 l0 x17_1).f0).length c425_0] 110 (0, 0)) (by (with_reducible repeat (first | refine yM ?_ _ | refine yO ?_ | refine yN ?_ _)); refine blk_put (cs := #[.slice none 0 0]) ?_ 0 _ rfl; (with_reducible repeat (first | refine yM ?_ _ | refine yO ?_ | refine yN ?_ _)); exact BK426.out) hb); clear hb hbox hg; have hnb14 := NB428_426.out; have hnc14 := NB426_428.out; have hcz15_0 : w13.cell? ⟨gb428, 0, none⟩ = some (.slice none 0 0) := (yG BK428.out 0).trans rfl; have hfz15_0 := yR BK428.out 0; have hcz16_0 : w13.cell? ⟨gb426, 0, none⟩ = some (.slice A425_0 ((rd_T110 l0 x17_1).f0).length c425_0) := (yG BK426.out 0).trans rfl; have hfz16_0 := yR BK426.out 0) | (go_at_call 156; (with_reducible refine (impl_samePoint.calls k1 _ _ ((rd_T110 l0 x17_1).f0) _ _ ((rd_T110 l1 x17_1).f0) true _ (cB HR425_0 HC425_0 HB) (cB HR427_0 HC427_0 HB) A9.out).mono ?_); rintro e w17 ⟨rfl, hb⟩; replace BK426 := yD (zB (g := gb426) (o := .cells #[.slice A425_0 ((rd_T110 l0 x17_1).f0).length c425_0] 110 (0, 0)) (by (with_reducible repeat (first | refine yM ?_ _ | refine yO ?_ | refine yN ?_ _)); refine blk_far ?_ NB426_428.out _; (with_reducible repeat (first | refine yM ?_ _ | refine yO ?_ | refine yN ?_ _)); exact BK426.out) hb); replace BK428 := yD (zB (g := gb428) (o := .cells #[.slice A427_0 ((rd_T110 l1 x17_1).f0).length c427_0] 110 (0, 0)) (by (with_reducible repeat (first | refine yM ?_ _ | refine yO ?_ | refine yN ?_ _)); refine blk_put (cs := #[.slice none 0 0]) ?_ 0 _ rfl; (with_reducible repeat (first | refine yM ?_ _ | refine yO ?_ | refine yN ?_ _)); exact BK428.out) hb); replace HB := zX HB hb; clear hb))
   go_roundg k1
   case measure => have := HK1.out; omega
   case rel => exact ⟨(wrap64 (x17_1 + 1)), kF, H', ⟨by have := HK1.out; omega⟩, ⟨kR0 HB⟩⟩
end Go.Proofs.Ytdiaebjbiddefaa.PFnExactBoxesOf
