/- Each function here comes to its plain form. It holds without a condition. -/
import Derived.Test.YtkkdkeogplgkfaaPFnSelectedBoxesx0
namespace Go.Proofs.Ytkkdkeogplgkfaa.PFnSelectedBoxes
open Go.RowKit Go.Proofs.YtkkdkeogplgkfaaW.PrintWords Go.Proofs.YtkkdkeogplgkfaaW.PrintLast Go.Proofs.YtkkdkeogplgkfaaW.PrintMore
attribute [local go_sem] max2_int min2_int max_two min_two max_three min_three max_four min_four
set_option linter.unusedVariables false
set_option linter.unusedSimpArgs false
set_option maxHeartbeats 8000000
set_option maxRecDepth 100000
/-- A state of type 64 at block g of W; what its slices lead to came in by w0. -/
def bB (w0 W : World) (g : Nat) (f0 : List Int) (f1 : Int) (f2 : Int) : Prop := ∃ A0 c0, W.heap[g]? = some (.cells #[.slice A0 f0.length c0, .int .i64 f1, .int .u64 f2] 64 (0, 0)) ∧ w0.heap.size ≤ g ∧ Kd.C (Kd.int .u8) w0 A0 f0.length f0
theorem bB.grown {w0 W : World} {g : Nat} {f0 : List Int} {f1 : Int} {f2 : Int} {W1 : World} {row : Option Nat} (h : bB w0 W g f0 f1 f2) (hw : W.grownBy W1 row) (hne : some g ≠ row) : bB w0 W1 g f0 f1 f2 := by
 obtain ⟨A0, c0, hb, hg, hr0⟩ := h
 exact ⟨A0, c0, blk_grown hb hw hne, hg, hr0⟩
theorem bB.kept {w0 W : World} {g : Nat} {f0 : List Int} {f1 : Int} {f2 : Int} {W1 : World} {S : Nat → Prop} (h : bB w0 W g f0 f1 f2) (hk : Kept W W1 S) (hne : ¬ S g) : bB w0 W1 g f0 f1 f2 := by
 obtain ⟨A0, c0, hb, hg, hr0⟩ := h
 exact ⟨A0, c0, blk_kept hb hk hne, hg, hr0⟩
theorem bB.below {w0 W : World} {g : Nat} {f0 : List Int} {f1 : Int} {f2 : Int} {W1 : World} (h : bB w0 W g f0 f1 f2) (hw : Below W.heap.size W W1) : bB w0 W1 g f0 f1 f2 := h.grown (grown_of_below hw none) (by simp)
theorem bB.alloc {w0 W : World} {g : Nat} {f0 : List Int} {f1 : Int} {f2 : Int} (h : bB w0 W g f0 f1 f2) (o : Obj) : bB w0 (W.alloc o) g f0 f1 f2 := h.below (below_alloc (Below.refl _ _) o)
theorem bB.drewN {w0 W : World} {g : Nat} {f0 : List Int} {f1 : Int} {f2 : Int} (h : bB w0 W g f0 f1 f2) (m : Nat) : bB w0 (W.drewN m) g f0 f1 f2 := h
theorem bB.drew {w0 W : World} {g : Nat} {f0 : List Int} {f1 : Int} {f2 : Int} (h : bB w0 W g f0 f1 f2) : bB w0 W.drew g f0 f1 f2 := h
theorem bB.at_ {w0 W : World} {g : Nat} {f0 : List Int} {f1 : Int} {f2 : Int} {w' : World} {m : Nat} (hq : W.drewN m = w') (h : bB w0 W g f0 f1 f2) : bB w0 w' g f0 f1 f2 := by subst hq; exact bB.drewN h m
theorem bB.apart {w0 W : World} {g : Nat} {f0 : List Int} {f1 : Int} {f2 : Int} {α : Type} {d : Kd α} {e : Nat} {base : Nat} {ok : Nat → Prop} {v : Value} {xs : List α} (h : bB w0 W g f0 f1 f2) (ho : d.R e W base ok v xs) (ht : ∀ q, q ∈ e :: d.E → q ≠ 64) : d.R e W base (fun k => ok k ∧ k ≠ g) v xs := by
 obtain ⟨A0, c0, hb, hg, hr0⟩ := h
 exact Kd.bQ ho hb ht
theorem bB.own_ne {w0 W : World} {g : Nat} {f0 : List Int} {f1 : Int} {f2 : Int} {α : Type} {d : Kd α} {e : Nat} {base : Nat} {ok : Nat → Prop} {v : Value} {xs : List α} (h : bB w0 W g f0 f1 f2) (ho : d.R e W base ok v xs) (ht : e ≠ 64) : some g ≠ v.ownBlock := by
 obtain ⟨A0, c0, hb, hg, hr0⟩ := h
 exact Kd.R_ne ho hb ht
theorem bB.apartS {w0 W : World} {g : Nat} {f0 : List Int} {f1 : Int} {f2 : Int} {α : Type} {d : Kd α} {e : Nat} {base : Nat} {ok : Nat → Prop} {v : Value} {xs : List α} (h : bB w0 W g f0 f1 f2) (ho : d.S e W base ok v xs) (ht : ∀ q, q ∈ e :: d.E → q ≠ 64) : d.S e W base (fun k => ok k ∧ k ≠ g) v xs := by
 obtain ⟨A0, c0, hb, hg, hr0⟩ := h
 exact Kd.S_types ho hb ht
theorem bB.own_neS {w0 W : World} {g : Nat} {f0 : List Int} {f1 : Int} {f2 : Int} {α : Type} {d : Kd α} {e : Nat} {base : Nat} {ok : Nat → Prop} {v : Value} {xs : List α} (h : bB w0 W g f0 f1 f2) (ho : d.S e W base ok v xs) (ht : e ≠ 64) : some g ≠ v.ownBlock := by
 obtain ⟨A0, c0, hb, hg, hr0⟩ := h
 exact Kd.S_ne ho hb ht
theorem bB.lt {w0 W : World} {g : Nat} {f0 : List Int} {f1 : Int} {f2 : Int} (h : bB w0 W g f0 f1 f2) : g < W.heap.size := by
 obtain ⟨A0, c0, hb, hg, hr0⟩ := h
 exact cT hb
theorem bB.ge {w0 W : World} {g : Nat} {f0 : List Int} {f1 : Int} {f2 : Int} (h : bB w0 W g f0 f1 f2) : w0.heap.size ≤ g := by
 obtain ⟨A0, c0, hb, hg, hr0⟩ := h
 exact hg
theorem bB.ne_blk {w0 W : World} {g : Nat} {f0 : List Int} {f1 : Int} {f2 : Int} {a : Nat} {cs : Array Value} {t : TypeId} {fr : Nat × Nat} (h : bB w0 W g f0 f1 f2) (hb2 : W.heap[a]? = some (.cells cs t fr)) (ht : t ≠ 64) : g ≠ a := by
 obtain ⟨A0, c0, hb, hg, hr0⟩ := h
 rintro rfl
 rw [hb] at hb2
 injection hb2 with hb2
 injection hb2 with _ ht2
 exact ht ht2.symm
theorem bB.far {w0 W : World} {g : Nat} {f0 : List Int} {f1 : Int} {f2 : Int} {p : Addr} (h : bB w0 W g f0 f1 f2) (hne : g ≠ p.block) (u : Value) : bB w0 (W.setCell p u) g f0 f1 f2 := by
 obtain ⟨A0, c0, hb, hg, hr0⟩ := h
 exact ⟨A0, c0, blk_far hb hne u, hg, hr0⟩
theorem cellS64_0 {W : World} {g : Nat} {A0 : Option Addr} {c0 : Nat} {f0 : List Int} {f1 : Int} {f2 : Int} (h : W.heap[g]? = some (.cells #[.slice A0 f0.length c0, .int .i64 f1, .int .u64 f2] 64 (0, 0))) : W.cell? ⟨g, 0, none⟩ = some (.slice A0 f0.length c0) := (blk_cell h 0).trans rfl
theorem cellS64_1 {W : World} {g : Nat} {A0 : Option Addr} {c0 : Nat} {f0 : List Int} {f1 : Int} {f2 : Int} (h : W.heap[g]? = some (.cells #[.slice A0 f0.length c0, .int .i64 f1, .int .u64 f2] 64 (0, 0))) : W.cell? ⟨g, 1, none⟩ = some (.int .i64 f1) := (blk_cell h 1).trans rfl
theorem bB.set_1 {w0 W : World} {g : Nat} {f0 : List Int} {f1 : Int} {f2 : Int} (h : bB w0 W g f0 f1 f2) (x : Int) : bB w0 (W.setCell ⟨g, 1, none⟩ (.int .i64 x)) g f0 x f2 := by
 obtain ⟨A0, c0, hb, hg, hr0⟩ := h
 exact ⟨A0, c0, by simpa using blk_set hb 1 (.int .i64 x), hg, hr0⟩
theorem cellS64_2 {W : World} {g : Nat} {A0 : Option Addr} {c0 : Nat} {f0 : List Int} {f1 : Int} {f2 : Int} (h : W.heap[g]? = some (.cells #[.slice A0 f0.length c0, .int .i64 f1, .int .u64 f2] 64 (0, 0))) : W.cell? ⟨g, 2, none⟩ = some (.int .u64 f2) := (blk_cell h 2).trans rfl
theorem bB.set_2 {w0 W : World} {g : Nat} {f0 : List Int} {f1 : Int} {f2 : Int} (h : bB w0 W g f0 f1 f2) (x : Int) : bB w0 (W.setCell ⟨g, 2, none⟩ (.int .u64 x)) g f0 f1 x := by
 obtain ⟨A0, c0, hb, hg, hr0⟩ := h
 exact ⟨A0, c0, by simpa using blk_set hb 2 (.int .u64 x), hg, hr0⟩
theorem bB.new (w0 W : World) (A0 : Option Addr) (c0 : Nat) (f0 : List Int) (f1 : Int) (f2 : Int) (hB : Below w0.heap.size w0 W) (hr0 : Kd.C (Kd.int .u8) w0 A0 f0.length f0) : bB w0 (W.alloc (.cells #[.slice A0 f0.length c0, .int .i64 f1, .int .u64 f2] 64)) W.heap.size f0 f1 f2 := ⟨A0, c0, by simpa using heap_alloc_new W _, hB.size, hr0⟩
def spec_l00From.f (l0 : List Int) : Option (List Int × Int × Int) := some (l0, 0, 0)
theorem spec_l00From.calls (A0 : Option Addr) (c0 : Nat) (l0 : List Int) (r1 : List Int) (r2 : Int) (r3 : Int) (w0 w : World) (hB : Below w0.heap.size w0 w) (hr0 : Kd.C (Kd.int .u8) w0 A0 l0.length l0) (hc0 : l0.length ≤ c0) (h : spec_l00From.f l0 = some (r1, r2, r3)) :
 Calls Try.prog 14 #[.slice A0 l0.length c0] w fun e w' => ∃ g_ : Nat, e = .returned (.pointer (some ⟨g_, 0, none⟩)) ∧ bB w0 w' g_ r1 r2 r3 ∧ Below w0.heap.size w0 w' ∧ Below w.heap.size w w' := by
 have hu64 := Try.underlying64
 have HR0 := yD hr0
 have HC0 := yD hc0
 clear hr0 hc0
 have HBW := yD (Below.refl w.heap.size w)
 have HW0 := yD hB.size
 have HB := yD hB
 clear hB
 have H : (some (l0, 0, 0)) = some (r1, r2, r3) := h
 clear h
 simp only [Option.some.injEq, Prod.mk.injEq] at H
 obtain ⟨rfl, rfl, rfl⟩ := H
 go_enter Try.func14, Try.ntmps14
 go_wp2_with (first | (refine gD 5 ?_; refine bE (N := 5) (cs := #[.slice A0 l0.length c0, .int .i64 0, .int .u64 0]) (t := 64) ?_; intro gb101 hg w2 hbox hb; replace HB := zX HB hb; have BK101 := yD (hbox); have GW101 := yD ((by rw [hg]; exact (aD (kR0 HBW)) : w.heap.size ≤ gb101)); have GE101 := yD ((Nat.le_trans HW0.out (by rw [hg]; exact (aD (kR0 HBW)) : w.heap.size ≤ gb101) : w0.heap.size ≤ gb101)); replace HBW := yD (zC HBW.out hb); clear hb hbox hg))
 go_ret
 exact ⟨_, rfl, (show bB w0 _ gb101 l0 0 0 from ⟨_, _, kM BK101, GE101.out, HR0.out⟩), kR1 HB, kR1 HBW⟩
def spec_l00Src_next.f (s0_0 : List Int) (s0_1 s0_2 : Int) : Option (Int × Int × Int) := if s0_1 < (s0_0.length : Int) then (if 0 ≤ s0_1 then (if (wrap64 (s0_1 + 1)) ≤ (s0_0.length : Int) then (some (wrap64 (rd s0_0 s0_1), wrap64 (s0_1 + 1), IntKind.u64.wrap ((IntKind.u64.wrap ((IntKind.u64.wrap (s0_2 * 6364136223846793005)) + (IntKind.u64.wrap (wrap64 (rd s0_0 s0_1))))) + 1442695040888963407))) else (some (wrap64 (Go.bits .and .u64 ((IntKind.u64.wrap ((IntKind.u64.wrap ((IntKind.u64.wrap (s0_2 * 6364136223846793005)) + (IntKind.u64.wrap (wrap64 (rd s0_0 s0_1))))) + 1442695040888963407)) / 1099511627776) 255), wrap64 (s0_1 + 1), IntKind.u64.wrap ((IntKind.u64.wrap ((IntKind.u64.wrap (s0_2 * 6364136223846793005)) + (IntKind.u64.wrap (wrap64 (rd s0_0 s0_1))))) + 1442695040888963407)))) else (none)) else (if (wrap64 (s0_1 + 1)) ≤ (s0_0.length : Int) then (some (0, wrap64 (s0_1 + 1), IntKind.u64.wrap ((IntKind.u64.wrap (IntKind.u64.wrap (s0_2 * 6364136223846793005))) + 1442695040888963407))) else (some (wrap64 (Go.bits .and .u64 ((IntKind.u64.wrap ((IntKind.u64.wrap (IntKind.u64.wrap (s0_2 * 6364136223846793005))) + 1442695040888963407)) / 1099511627776) 255), wrap64 (s0_1 + 1), IntKind.u64.wrap ((IntKind.u64.wrap (IntKind.u64.wrap (s0_2 * 6364136223846793005))) + 1442695040888963407))))
theorem spec_l00Src_next.calls (g : Nat) (s0_0 : List Int) (s0_1 : Int) (s0_2 : Int) (r1 : Int) (r2 : Int) (r3 : Int) (w0 w : World) (hI : bB w0 w g s0_0 s0_1 s0_2) (hB : Below w0.heap.size w0 w) (h : spec_l00Src_next.f s0_0 s0_1 s0_2 = some (r1, r2, r3)) :
 Calls Try.prog 64 #[.pointer (some ⟨g, 0, none⟩)] w fun e w' => e = .returned (.int .i64 r1) ∧ bB w0 w' g s0_0 r2 r3 ∧ Below w0.heap.size w0 w' ∧ aU w w' g none := by
 have HI0 := yD hI
 have HK := yD (aU.refl w g none)
 have HL := yD hB.size
 clear hI
 have HW0 := yD hB.size
 have HB := yD hB
 clear hB
 have H : (if s0_1 < (s0_0.length : Int) then (if 0 ≤ s0_1 then (if (wrap64 (s0_1 + 1)) ≤ (s0_0.length : Int) then (some (wrap64 (rd s0_0 s0_1), wrap64 (s0_1 + 1), IntKind.u64.wrap ((IntKind.u64.wrap ((IntKind.u64.wrap (s0_2 * 6364136223846793005)) + (IntKind.u64.wrap (wrap64 (rd s0_0 s0_1))))) + 1442695040888963407))) else (some (wrap64 (Go.bits .and .u64 ((IntKind.u64.wrap ((IntKind.u64.wrap ((IntKind.u64.wrap (s0_2 * 6364136223846793005)) + (IntKind.u64.wrap (wrap64 (rd s0_0 s0_1))))) + 1442695040888963407)) / 1099511627776) 255), wrap64 (s0_1 + 1), IntKind.u64.wrap ((IntKind.u64.wrap ((IntKind.u64.wrap (s0_2 * 6364136223846793005)) + (IntKind.u64.wrap (wrap64 (rd s0_0 s0_1))))) + 1442695040888963407)))) else (none)) else (if (wrap64 (s0_1 + 1)) ≤ (s0_0.length : Int) then (some (0, wrap64 (s0_1 + 1), IntKind.u64.wrap ((IntKind.u64.wrap (IntKind.u64.wrap (s0_2 * 6364136223846793005))) + 1442695040888963407))) else (some (wrap64 (Go.bits .and .u64 ((IntKind.u64.wrap ((IntKind.u64.wrap (IntKind.u64.wrap (s0_2 * 6364136223846793005))) + 1442695040888963407)) / 1099511627776) 255), wrap64 (s0_1 + 1), IntKind.u64.wrap ((IntKind.u64.wrap (IntKind.u64.wrap (s0_2 * 6364136223846793005))) + 1442695040888963407))))) = some (r1, r2, r3) := h
 clear h
 replace H := sG H; rcases H with ⟨c2b0, H⟩ | ⟨c2b0, H⟩
 ·
  replace H := sG H; rcases H with ⟨c7b0, H⟩ | ⟨c7b0, H⟩
  ·
   simp only [Option.some.injEq, Prod.mk.injEq] at H
   obtain ⟨rfl, rfl, rfl⟩ := H
   obtain ⟨ASz9_0, cSz9_0, HGz9, hgz9, HSz9_0⟩ := HI0.out
   have hcz9_0 := cellS64_0 HGz9
   have hcz9_1 := cellS64_1 HGz9
   have hcz9_2 := cellS64_2 HGz9
   have hfz9_1 := yR HGz9 1
   have hfz9_2 := yR HGz9 2
   clear HGz9 hgz9; go_enter Try.func64, Try.ntmps64
   go_wp2
   repeat (go_quiet (fail); try go_wp2)
   go_ret
   exact ⟨kE, kR2 HI0, kR3 HB, kR4 HK⟩
  simp only [Option.some.injEq, Prod.mk.injEq] at H
  obtain ⟨rfl, rfl, rfl⟩ := H
  obtain ⟨ASz8_0, cSz8_0, HGz8, hgz8, HSz8_0⟩ := HI0.out
  have hcz8_0 := cellS64_0 HGz8
  have hcz8_1 := cellS64_1 HGz8
  have hcz8_2 := cellS64_2 HGz8
  have hfz8_1 := yR HGz8 1
  have hfz8_2 := yR HGz8 2
  clear HGz8 hgz8; go_enter Try.func64, Try.ntmps64
  go_wp2
  repeat (go_quiet (fail); try go_wp2)
  go_ret
  exact ⟨kE, kR2 HI0, kR3 HB, kR4 HK⟩
 replace ⟨c3b0, H⟩ := sE H
 replace H := sG H; rcases H with ⟨c4b0, H⟩ | ⟨c4b0, H⟩
 ·
  simp only [Option.some.injEq, Prod.mk.injEq] at H
  obtain ⟨rfl, rfl, rfl⟩ := H
  obtain ⟨ASz6_0, cSz6_0, HGz6, hgz6, HSz6_0⟩ := HI0.out
  have hcz6_0 := cellS64_0 HGz6
  have hcz6_1 := cellS64_1 HGz6
  have hcz6_2 := cellS64_2 HGz6
  have hfz6_1 := yR HGz6 1
  have hfz6_2 := yR HGz6 2
  clear HGz6 hgz6
  obtain ⟨p102, q102, ad102, e102, hx102_0⟩ := sI (Kd.aX HSz6_0 s0_1)
  cases e102
  replace hx102_0 := pw_cell_below HB.out hx102_0
  go_enter Try.func64, Try.ntmps64
  go_wp2
  repeat (go_quiet (fail); try go_wp2)
  go_ret
  exact ⟨kE, kR2 HI0, kR3 HB, kR4 HK⟩
 simp only [Option.some.injEq, Prod.mk.injEq] at H
 obtain ⟨rfl, rfl, rfl⟩ := H
 obtain ⟨ASz5_0, cSz5_0, HGz5, hgz5, HSz5_0⟩ := HI0.out
 have hcz5_0 := cellS64_0 HGz5
 have hcz5_1 := cellS64_1 HGz5
 have hcz5_2 := cellS64_2 HGz5
 have hfz5_1 := yR HGz5 1
 have hfz5_2 := yR HGz5 2
 clear HGz5 hgz5
 obtain ⟨p102, q102, ad102, e102, hx102_0⟩ := sI (Kd.aX HSz5_0 s0_1)
 cases e102
 replace hx102_0 := pw_cell_below HB.out hx102_0
 go_enter Try.func64, Try.ntmps64
 go_wp2
 repeat (go_quiet (fail); try go_wp2)
 go_ret
 exact ⟨kE, kR2 HI0, kR3 HB, kR4 HK⟩
def bL.f (s0_0 : List Int) (s0_1 s0_2 a1 : Int) : Option (Int × Int × Int) := if a1 ≤ 1 then (some (0, s0_1, s0_2)) else ((spec_l00Src_next.f s0_0 s0_1 s0_2).bind fun bt103 => (if a1 > 200 then ((spec_l00Src_next.f s0_0 bt103.2.1 bt103.2.2).bind fun bt106 => (if a1 = 0 then (none) else (some (Int.tmod (wrap64 ((wrap64 (bt103.1 * 256)) + bt106.1)) a1, bt106.2.1, bt106.2.2)))) else (if a1 = 0 then (none) else (some (Int.tmod bt103.1 a1, bt103.2.1, bt103.2.2)))))
theorem bL.calls (g : Nat) (s0_0 : List Int) (s0_1 : Int) (s0_2 : Int) (a1 : Int) (r1 : Int) (r2 : Int) (r3 : Int) (w0 w : World) (hI : bB w0 w g s0_0 s0_1 s0_2) (hB : Below w0.heap.size w0 w) (h : bL.f s0_0 s0_1 s0_2 a1 = some (r1, r2, r3)) :
 Calls Try.prog 41 #[.pointer (some ⟨g, 0, none⟩), .int .i64 a1] w fun e w' => e = .returned (.int .i64 r1) ∧ bB w0 w' g s0_0 r2 r3 ∧ Below w0.heap.size w0 w' ∧ aU w w' g none := by
 have HI0 := yD hI
 have HK := yD (aU.refl w g none)
 have HL := yD hB.size
 clear hI
 have HW0 := yD hB.size
 have HB := yD hB
 clear hB
 have H : (if a1 ≤ 1 then (some (0, s0_1, s0_2)) else ((spec_l00Src_next.f s0_0 s0_1 s0_2).bind fun bt103 => (if a1 > 200 then ((spec_l00Src_next.f s0_0 bt103.2.1 bt103.2.2).bind fun bt106 => (if a1 = 0 then (none) else (some (Int.tmod (wrap64 ((wrap64 (bt103.1 * 256)) + bt106.1)) a1, bt106.2.1, bt106.2.2)))) else (if a1 = 0 then (none) else (some (Int.tmod bt103.1 a1, bt103.2.1, bt103.2.2)))))) = some (r1, r2, r3) := h
 clear h
 replace H := sF H; rcases H with ⟨c3b0, H⟩ | ⟨c3b0, H⟩
 ·
  simp only [Option.some.injEq, Prod.mk.injEq] at H
  obtain ⟨rfl, rfl, rfl⟩ := H
  go_enter Try.func41, Try.ntmps41
  go_wp2
  go_ret
  exact ⟨kE, kR2 HI0, kR3 HB, kR4 HK⟩
 replace ⟨⟨t103, t104, t105⟩, A4, H⟩ := sV H
 replace H := sC H; rcases H with ⟨c5, H⟩ | ⟨c5, H⟩
 ·
  have c5b0 : decide (200 < a1) = false := zS c5; clear c5
  by_cases c10 : a1 = 0
  · rw [if_pos c10] at H
    exact absurd H (by simp)
  ·
   rw [if_neg c10] at H
   have c10b0 : (a1 == 0) = false := beq_eq_false_iff_ne.mpr c10
   have c10b1 : (a1 != 0) = true := bne_iff_ne.mpr c10
   simp only [Option.some.injEq, Prod.mk.injEq] at H
   obtain ⟨rfl, rfl, rfl⟩ := H
   go_enter Try.func41, Try.ntmps41
   go_wp2_with (first | (refine gC 64 ?_; refine gL 9 Try.func64 _ (dw (spec_l00Src_next.calls g s0_0 s0_1 s0_2 t103 t104 t105 w0 _ ?z1 ?z2 A4.out) fun w11 hi hb hk => ?_); (case z1 => exact kR2 HI0); (case z2 => exact kR3 HB); replace HK := yD (aU.trans (kR4 HK) hk (.inl rfl)); replace HB := yD (hb); replace HI0 := yD (hi); clear hb hk hi))
   go_ret
   exact ⟨kE, kR2 HI0, kR3 HB, kR4 HK⟩
 have c5b0 : decide (200 < a1) = true := zR c5; clear c5
 replace ⟨⟨t106, t107, t108⟩, A6, H⟩ := sV H
 by_cases c7 : a1 = 0
 · rw [if_pos c7] at H
   exact absurd H (by simp)
 ·
  rw [if_neg c7] at H
  have c7b0 : (a1 == 0) = false := beq_eq_false_iff_ne.mpr c7
  have c7b1 : (a1 != 0) = true := bne_iff_ne.mpr c7
  simp only [Option.some.injEq, Prod.mk.injEq] at H
  obtain ⟨rfl, rfl, rfl⟩ := H
  go_enter Try.func41, Try.ntmps41
  go_wp2_with (first | (refine gC 64 ?_; refine gL 9 Try.func64 _ (dw (spec_l00Src_next.calls g s0_0 s0_1 s0_2 t103 t104 t105 w0 _ ?z1 ?z2 A4.out) fun w8 hi hb hk => ?_); (case z1 => exact kR2 HI0); (case z2 => exact kR3 HB); replace HK := yD (aU.trans (kR4 HK) hk (.inl rfl)); replace HB := yD (hb); replace HI0 := yD (hi); clear hb hk hi) | (refine gC 64 ?_; refine gL 15 Try.func64 _ (dw (spec_l00Src_next.calls g s0_0 t104 t105 t106 t107 t108 w0 _ ?z1 ?z2 A6.out) fun w9 hi hb hk => ?_); (case z1 => exact kR2 HI0); (case z2 => exact kR3 HB); replace HK := yD (aU.trans (kR4 HK) hk (.inl rfl)); replace HB := yD (hb); replace HI0 := yD (hi); clear hb hk hi))
  go_ret
  exact ⟨kE, kR2 HI0, kR3 HB, kR4 HK⟩
def spec_l00Src_among.f (s0_0 : List Int) (s0_1 s0_2 : Int) (l1 : List Int) : Option (Int × Int × Int) := (bL.f s0_0 s0_1 s0_2 (l1.length : Int)).bind fun bt109 => (if 0 ≤ bt109.1 then (if bt109.1 < (l1.length : Int) then (some (rd l1 bt109.1, bt109.2.1, bt109.2.2)) else (none)) else (none))
theorem spec_l00Src_among.calls (g : Nat) (s0_0 : List Int) (s0_1 : Int) (s0_2 : Int) (A1 : Option Addr) (c1 : Nat) (l1 : List Int) (r1 : Int) (r2 : Int) (r3 : Int) (w0 w : World) (hI : bB w0 w g s0_0 s0_1 s0_2) (hB : Below w0.heap.size w0 w) (C1 : Cm (Kd.int .i64) w A1 c1 l1) (hf1 : ∀ ad, A1 = some ad → 0 < l1.length → ad.block ≠ g) (h : spec_l00Src_among.f s0_0 s0_1 s0_2 l1 = some (r1, r2, r3)) :
 Calls Try.prog 39 #[.pointer (some ⟨g, 0, none⟩), .slice A1 l1.length c1] w fun e w' => e = .returned (.int .i64 r1) ∧ bB w0 w' g s0_0 r2 r3 ∧ Below w0.heap.size w0 w' ∧ aU w w' g none := by
 have HI0 := yD hI
 have HK := yD (aU.refl w g none)
 have HL := yD hB.size
 clear hI
 have HW0 := yD hB.size
 have HB := yD hB
 clear hB
 have H : ((bL.f s0_0 s0_1 s0_2 (l1.length : Int)).bind fun bt109 => (if 0 ≤ bt109.1 then (if bt109.1 < (l1.length : Int) then (some (rd l1 bt109.1, bt109.2.1, bt109.2.2)) else (none)) else (none))) = some (r1, r2, r3) := h
 clear h
 replace ⟨⟨t109, t110, t111⟩, A3, H⟩ := sV H
 replace ⟨c4b0, H⟩ := sE H
 replace ⟨c5b0, H⟩ := sE H
 simp only [Option.some.injEq, Prod.mk.injEq] at H
 obtain ⟨rfl, rfl, rfl⟩ := H
 go_enter Try.func39, Try.ntmps39
 go_wp2_with (first | (refine gC 41 ?_; refine gL 9 Try.func41 _ (dw (bL.calls g s0_0 s0_1 s0_2 (l1.length : Int) t109 t110 t111 w0 _ ?z1 ?z2 A3.out) fun w6 hi hb hk => ?_); (case z1 => exact kR2 HI0); (case z2 => exact kR3 HB); replace HK := yD (aU.trans (kR4 HK) hk (.inl rfl)); replace HB := yD (hb); replace HI0 := yD (hi); clear hb hk hi; have p112 : 0 ≤ (t109 : Int) := zP (by assumption); have q112 : t109 < (l1.length : Int) := zP (by assumption); obtain ⟨ad112, e112, hx112_0⟩ := Kd.aX C1.r t109 p112 q112; cases e112; replace hx112_0 := keep_cell HK.out hx112_0 (by first | (rw [add_block]; exact hf1 _ rfl (by omega)) | exact hf1 _ rfl (by omega) | exact hf1 ad112 rfl (by omega)); replace p112 := eq_true p112; replace q112 := eq_true q112))
 go_ret
 exact ⟨kE, kR2 HI0, kR3 HB, kR4 HK⟩
def spec_l00Src_one.f (s0_0 : List Int) (s0_1 s0_2 a1 : Int) : Option (Bool × Int × Int) := (bL.f s0_0 s0_1 s0_2 a1).bind fun bt113 => (some ((bt113.1 == 0), bt113.2.1, bt113.2.2))
theorem spec_l00Src_one.calls (g : Nat) (s0_0 : List Int) (s0_1 : Int) (s0_2 : Int) (a1 : Int) (r1 : Bool) (r2 : Int) (r3 : Int) (w0 w : World) (hI : bB w0 w g s0_0 s0_1 s0_2) (hB : Below w0.heap.size w0 w) (h : spec_l00Src_one.f s0_0 s0_1 s0_2 a1 = some (r1, r2, r3)) :
 Calls Try.prog 63 #[.pointer (some ⟨g, 0, none⟩), .int .i64 a1] w fun e w' => e = .returned (.bool r1) ∧ bB w0 w' g s0_0 r2 r3 ∧ Below w0.heap.size w0 w' ∧ aU w w' g none := by
 have HI0 := yD hI
 have HK := yD (aU.refl w g none)
 have HL := yD hB.size
 clear hI
 have HW0 := yD hB.size
 have HB := yD hB
 clear hB
 have H : ((bL.f s0_0 s0_1 s0_2 a1).bind fun bt113 => (some ((bt113.1 == 0), bt113.2.1, bt113.2.2))) = some (r1, r2, r3) := h
 clear h
 replace ⟨⟨t113, t114, t115⟩, A3, H⟩ := sV H
 simp only [Option.some.injEq, Prod.mk.injEq] at H
 obtain ⟨rfl, rfl, rfl⟩ := H
 go_enter Try.func63, Try.ntmps63
 go_wp2_with (first | (refine gC 41 ?_; refine gL 7 Try.func41 _ (dw (bL.calls g s0_0 s0_1 s0_2 a1 t113 t114 t115 w0 _ ?z1 ?z2 A3.out) fun w4 hi hb hk => ?_); (case z1 => exact kR2 HI0); (case z2 => exact kR3 HB); replace HK := yD (aU.trans (kR4 HK) hk (.inl rfl)); replace HB := yD (hb); replace HI0 := yD (hi); clear hb hk hi))
 go_ret
 exact ⟨kE, kR2 HI0, kR3 HB, kR4 HK⟩
def spec_l05Draw.l0 : Nat → Int → List Int → List Int → Int → Int → Option (List Int × Int × Int)
 | 0, _, _, _, _, _ => none
 | k + 1, x1, x5, x1000, x1001, x1002 => if x1 > 0 then ((bL.f x1000 x1001 x1002 6).bind fun bt119 => ((spec_l00Src_one.f x1000 bt119.2.1 bt119.2.2 8).bind fun bt122 => (if bt122.1 = true then ((bL.f x1000 bt122.2.1 bt122.2.2 9).bind fun bt125 => (if x5.length < 17592186044416 then (spec_l05Draw.l0 k (wrap64 (x1 - 1)) (x5 ++ [bt125.1]) x1000 bt125.2.1 bt125.2.2) else (none))) else (if x5.length < 17592186044416 then (spec_l05Draw.l0 k (wrap64 (x1 - 1)) (x5 ++ [wrap64 (1 + bt119.1)]) x1000 bt122.2.1 bt122.2.2) else (none))))) else (if (x5.length : Int) = 1 then ((spec_l00Src_one.f x1000 x1001 x1002 6).bind fun bt134 => (if bt134.1 = true then ((spec_l00Src_among.f x1000 bt134.2.1 bt134.2.2 (([40, 39, 17] : List Int))).bind fun bt140 => (if 0 < (x5.length : Int) then (some ((x5.set (0 : Int).toNat bt140.1), bt140.2.1, bt140.2.2)) else (none))) else (some (x5, bt134.2.1, bt134.2.2)))) else (some (x5, x1001, x1002)))
def spec_l05Draw.f (k : Nat) (s0_0 : List Int) (s0_1 s0_2 a1 : Int) : Option (List Int × Int × Int) := spec_l05Draw.l0 k a1 (([] : List Int)) s0_0 s0_1 s0_2
theorem spec_l05Draw.calls (k : Nat) (g : Nat) (s0_0 : List Int) (s0_1 : Int) (s0_2 : Int) (a1 : Int) (r1 : List Int) (r2 : Int) (r3 : Int) (w0 w : World) (hI : bB w0 w g s0_0 s0_1 s0_2) (hB : Below w0.heap.size w0 w) (h : spec_l05Draw.f k s0_0 s0_1 s0_2 a1 = some (r1, r2, r3)) :
 Calls Try.prog 40 #[.pointer (some ⟨g, 0, none⟩), .int .i64 a1] w fun e w' => ∃ v0_ : Value, e = .returned (v0_) ∧ Kd.R (Kd.int .i64) 2 w' w.heap.size (fun _ => True) v0_ r1 ∧ bB w0 w' g s0_0 r2 r3 ∧ Below w0.heap.size w0 w' ∧ aU w w' g none := by
 have HI0 := yD hI
 have HK := yD (aU.refl w g none)
 have HL := yD hB.size
 clear hI
 have HW0 := yD hB.size
 have HB := yD hB
 clear hB
 have H : (spec_l05Draw.l0 k a1 (([] : List Int)) s0_0 s0_1 s0_2) = some (r1, r2, r3) := h
 clear h
 obtain ⟨y116, hy116⟩ : ∃ y_ : List Int, y_ = (([] : List Int)) := ⟨_, rfl⟩
 replace H : (spec_l05Draw.l0 k a1 y116 s0_0 s0_1 s0_2) = some (r1, r2, r3) := by first | (rw [hy116]; with_reducible exact H) | (have H2_ := (Option.bind_some _ _).symm.trans H; rw [hy116]; with_reducible exact H2_) | (have H2_ := (Option.bind_some _ _).symm.trans H; with_reducible exact H2_) | with_reducible exact H | (rw [hy116]; exact H) | exact H
 have Ny116 := yD hy116
 clear hy116
 have H' := yD H
 clear H; go_enter Try.func40, Try.ntmps40
 go_wp2_with (first | (refine gD 7 ?_; refine Kd.R_lit (Kd.int .i64) _ 2 ?hg (N := 7) ?hd (xs := ([] : List Int)) (inner := []) (ok := fun _ => True) (okp := fun _ => True) ?hr ?hp (fun _ hk => hk) trivial (Below.refl _ _) (Nat.le_refl _) (by simp) ?_; (case hd => rfl); (case hg => rfl); (case hr => first | (go_simp; done) | (go_simp; rfl)); (case hp => exact (cW.none _ _)); intro v117 w3 ho4 hb hg_ hnew_; clear hg_ hnew_; (first | rw [← Ny116.out] at ho4 | (simp only [Int.reduceToNat] at ho4; rw [← Ny116.out] at ho4)); have HO118 := yD (yZ ho4 (keep_size (w := w) (g := g) (row := none) (kR4 HK))); replace HI0 := yD (bB.below (kR2 HI0) hb); replace HK := yD (aU.trans (kR4 HK) (aU.of_below hb g none) (.inl rfl)); replace HB := yD (zC (kR3 HB) hb); clear hb ho4))
 (try simp only [Act.put, zH, zI, zJ])
 go_loopg [1, 5] k (fun kq v1 v5 w' => ∃ (x1_1 : Int) (x5_1 : List Int) (x1001_1 : Int) (x1002_1 : Int), v1 = .int .i64 x1_1 ∧ aC (spec_l05Draw.l0 kq x1_1 x5_1 s0_0 x1001_1 x1002_1 = some (r1, r2, r3)) ∧ aC (kq ≤ k) ∧ aC (Kd.R (Kd.int .i64) 2 w' w.heap.size (fun _ => True) v5 x5_1) ∧ aC (bB w0 w' g s0_0 x1001_1 x1002_1) ∧ aC (aU w w' g none) ∧ aC (Below w0.heap.size w0 w'))
 case atStart => exact ⟨(a1), (y116), (s0_1), (s0_2), kF, H', ⟨Nat.le_refl _⟩, ⟨kA HO118⟩, ⟨kR2 HI0⟩, ⟨kR4 HK⟩, ⟨kR3 HB⟩⟩
 case round =>
  clear H'
  obtain ⟨x1_1, x5_1, x1001_1, x1002_1, rfl, HA, HK1, HO_5, HI0, HK, HB⟩ := hrel
  cases gk with
  | zero => exact absurd HA.out (by simp [spec_l05Draw.l0])
  | succ k1 =>
   have H := HA.out; clear HA
   simp only [spec_l05Draw.l0] at H
   replace H := sB H; rcases H with ⟨c5, H⟩ | ⟨c5, H⟩
   ·
    have c5b0 : decide (0 < x1_1) = true := zR c5; clear c5
    replace ⟨⟨t119, t120, t121⟩, A6, H⟩ := sV H
    replace ⟨⟨t122, t123, t124⟩, A7, H⟩ := sV H
    replace H := sS H; rcases H with ⟨rfl, H⟩ | ⟨rfl, H⟩
    ·
     replace ⟨LMc15, H⟩ := sM H
     generalize hy131 : ((x5_1 ++ [wrap64 (1 + t119)]) : List Int) = y131 at H
     have Ny131 := yD hy131.symm
     clear hy131
     have H' := yD H
     clear H
     go_wp2_with (first | (refine gC 41 ?_; refine gL 13 Try.func41 _ (dw (bL.calls g s0_0 x1001_1 x1002_1 6 t119 t120 t121 w0 _ ?z1 ?z2 A6.out) fun w16 hi hb hk => ?_); (case z1 => exact kR2 HI0); (case z2 => exact kR3 HB); replace HO_5 := yD (zF (Kd.R_keep (bB.apart (show bB w0 _ g s0_0 x1001_1 x1002_1 from kR2 HI0) (kA HO_5) (by decide)) hk (fun _ h => h.2)) (fun _ h => h.1)); replace HK := yD (aU.trans (kR4 HK) hk (.inl rfl)); replace HB := yD (hb); replace HI0 := yD (hi); clear hb hk hi) | (refine gC 63 ?_; refine gL 16 Try.func63 _ (dw (spec_l00Src_one.calls g s0_0 t120 t121 8 false t123 t124 w0 _ ?z1 ?z2 A7.out) fun w17 hi hb hk => ?_); (case z1 => exact kR2 HI0); (case z2 => exact kR3 HB); replace HO_5 := yD (zF (Kd.R_keep (bB.apart (show bB w0 _ g s0_0 t120 t121 from kR2 HI0) (kA HO_5) (by decide)) hk (fun _ h => h.2)) (fun _ h => h.1)); replace HK := yD (aU.trans (kR4 HK) hk (.inl rfl)); replace HB := yD (hb); replace HI0 := yD (hi); clear hb hk hi) | ((with_reducible refine gate_builtin (b := .append) (xs := #[.tmp 19, .tmp 21]) rfl ?_); at_builtin; refine Kd.R_append (Kd.int .i64) w.heap.size rfl (.tmp 19) (.tmp 21) 23 2 (.int .i64 0) 8 rfl Try.underlying23 info2 rfl (by decide) (by omega) u5 x5_1 (wrap64 (1 + t119)) [.int .i64 (wrap64 (1 + t119))] (fun _ => True) (fun _ => False) rfl rfl ?aP (fun _ hk => hk.elim) ?aF ?aO (Below.refl _ _) ?aS ?aL ?_; (case aP => exact rfl); (case aF => exact (fun _ _ => trivial)); (case aO => exact (kA HO_5)); (case aS => exact (keep_size (w := w) (g := g) (row := none) (kR4 HK))); (case aL => have := LMc15.out; omega); intro v132 w18 ho hb hg hat; rw [← Ny131.out] at ho; replace HI0 := yD (bB.grown (kR2 HI0) hg (bB.own_ne HI0.out HO_5.out (by decide))); replace HB := yD (below_weaken (kR3 HB) HL.out hb); replace HK := yD (aU.trans (kR4 HK) (aU.of_grown hg g) (Kd.R_base2 HO_5.out)); have HO133 := yD (ho); clear HO_5; clear ho hb hg hat))
     go_roundg k1
     case measure => have := HK1.out; omega
     case rel => exact ⟨(wrap64 (x1_1 - 1)), (y131), (t123), (t124), kF, H', ⟨by have := HK1.out; omega⟩, ⟨kA HO133⟩, ⟨kR2 HI0⟩, ⟨kR4 HK⟩, ⟨kR3 HB⟩⟩
    replace ⟨⟨t125, t126, t127⟩, A9, H⟩ := sV H
    replace ⟨LMc10, H⟩ := sM H
    generalize hy128 : ((x5_1 ++ [t125]) : List Int) = y128 at H
    have Ny128 := yD hy128.symm
    clear hy128
    have H' := yD H
    clear H
    go_wp2_with (first | (refine gC 41 ?_; refine gL 13 Try.func41 _ (dw (bL.calls g s0_0 x1001_1 x1002_1 6 t119 t120 t121 w0 _ ?z1 ?z2 A6.out) fun w11 hi hb hk => ?_); (case z1 => exact kR2 HI0); (case z2 => exact kR3 HB); replace HO_5 := yD (zF (Kd.R_keep (bB.apart (show bB w0 _ g s0_0 x1001_1 x1002_1 from kR2 HI0) (kA HO_5) (by decide)) hk (fun _ h => h.2)) (fun _ h => h.1)); replace HK := yD (aU.trans (kR4 HK) hk (.inl rfl)); replace HB := yD (hb); replace HI0 := yD (hi); clear hb hk hi) | (refine gC 63 ?_; refine gL 16 Try.func63 _ (dw (spec_l00Src_one.calls g s0_0 t120 t121 8 true t123 t124 w0 _ ?z1 ?z2 A7.out) fun w12 hi hb hk => ?_); (case z1 => exact kR2 HI0); (case z2 => exact kR3 HB); replace HO_5 := yD (zF (Kd.R_keep (bB.apart (show bB w0 _ g s0_0 t120 t121 from kR2 HI0) (kA HO_5) (by decide)) hk (fun _ h => h.2)) (fun _ h => h.1)); replace HK := yD (aU.trans (kR4 HK) hk (.inl rfl)); replace HB := yD (hb); replace HI0 := yD (hi); clear hb hk hi) | (refine gC 41 ?_; refine gL 18 Try.func41 _ (dw (bL.calls g s0_0 t123 t124 9 t125 t126 t127 w0 _ ?z1 ?z2 A9.out) fun w13 hi hb hk => ?_); (case z1 => exact kR2 HI0); (case z2 => exact kR3 HB); replace HO_5 := yD (zF (Kd.R_keep (bB.apart (show bB w0 _ g s0_0 t123 t124 from kR2 HI0) (kA HO_5) (by decide)) hk (fun _ h => h.2)) (fun _ h => h.1)); replace HK := yD (aU.trans (kR4 HK) hk (.inl rfl)); replace HB := yD (hb); replace HI0 := yD (hi); clear hb hk hi) | ((with_reducible refine gate_builtin (b := .append) (xs := #[.tmp 19, .tmp 21]) rfl ?_); at_builtin; refine Kd.R_append (Kd.int .i64) w.heap.size rfl (.tmp 19) (.tmp 21) 23 2 (.int .i64 0) 8 rfl Try.underlying23 info2 rfl (by decide) (by omega) u5 x5_1 t125 [.int .i64 t125] (fun _ => True) (fun _ => False) rfl rfl ?aP (fun _ hk => hk.elim) ?aF ?aO (Below.refl _ _) ?aS ?aL ?_; (case aP => exact rfl); (case aF => exact (fun _ _ => trivial)); (case aO => exact (kA HO_5)); (case aS => exact (keep_size (w := w) (g := g) (row := none) (kR4 HK))); (case aL => have := LMc10.out; omega); intro v129 w14 ho hb hg hat; rw [← Ny128.out] at ho; replace HI0 := yD (bB.grown (kR2 HI0) hg (bB.own_ne HI0.out HO_5.out (by decide))); replace HB := yD (below_weaken (kR3 HB) HL.out hb); replace HK := yD (aU.trans (kR4 HK) (aU.of_grown hg g) (Kd.R_base2 HO_5.out)); have HO130 := yD (ho); clear HO_5; clear ho hb hg hat))
    go_roundg k1
    case measure => have := HK1.out; omega
    case rel => exact ⟨(wrap64 (x1_1 - 1)), (y128), (t126), (t127), kF, H', ⟨by have := HK1.out; omega⟩, ⟨kA HO130⟩, ⟨kR2 HI0⟩, ⟨kR4 HK⟩, ⟨kR3 HB⟩⟩
   have c5b0 : decide (0 < x1_1) = false := zS c5; clear c5
   replace H := sP H; rcases H with ⟨c19, c19b0, c19b1, H⟩ | ⟨-, c19b0, c19b1, H⟩
   ·
    simp only [Option.some.injEq, Prod.mk.injEq] at H
    obtain ⟨rfl, rfl, rfl⟩ := H
    obtain ⟨Ao35, co35, eo35⟩ := Kd.bS HO_5.out
    subst eo35
    go_wp2
    go_ret
    exact ⟨_, kE, kA HO_5, kR2 HI0, kR3 HB, kR4 HK⟩
   replace ⟨⟨t134, t135, t136⟩, A20, H⟩ := sV H
   replace H := sS H; rcases H with ⟨rfl, H⟩ | ⟨rfl, H⟩
   ·
    simp only [Option.some.injEq, Prod.mk.injEq] at H
    obtain ⟨rfl, rfl, rfl⟩ := H
    obtain ⟨Ao33, co33, eo33⟩ := Kd.bS HO_5.out
    subst eo33
    go_wp2_with (first | (go_at_call 63; (with_reducible refine (spec_l00Src_one.calls g s0_0 x1001_1 x1002_1 6 false t135 t136 w0 _ ?z1 ?z2 A20.out).mono ?_); (case z1 => exact kR2 HI0); (case z2 => exact kR3 HB); rintro e w34 ⟨rfl, hi, hb, hk⟩; replace HO_5 := yD (zF (Kd.R_keep (bB.apart (show bB w0 _ g s0_0 x1001_1 x1002_1 from kR2 HI0) (kA HO_5) (by decide)) hk (fun _ h => h.2)) (fun _ h => h.1)); replace HK := yD (aU.trans (kR4 HK) hk (.inl rfl)); replace HB := yD (hb); replace HI0 := yD (hi); clear hb hk hi))
    go_ret
    exact ⟨_, kE, kA HO_5, kR2 HI0, kR3 HB, kR4 HK⟩
   generalize hy137 : ((([40, 39, 17] : List Int)) : List Int) = y137 at H
   have Ny137 := yD hy137.symm
   clear hy137
   replace ⟨⟨t140, t141, t142⟩, A22, H⟩ := sV H
   replace ⟨c23, H⟩ := sD H
   have c23b0 : decide (0 < (x5_1.length : Int)) = true := zR c23
   have c23b1 : decide (0 < x5_1.length) = true := zR (by omega)
   clear c23
   generalize hy143 : ((x5_1.set (0 : Int).toNat t140) : List Int) = y143 at H
   have Ny143 := yD hy143.symm
   clear hy143
   simp only [Option.some.injEq, Prod.mk.injEq] at H
   obtain ⟨rfl, rfl, rfl⟩ := H
   obtain ⟨Ao25, co25, eo25⟩ := Kd.bS HO_5.out
   subst eo25
   go_wp2_with (first | (go_at_call 63; (with_reducible refine (spec_l00Src_one.calls g s0_0 x1001_1 x1002_1 6 true t135 t136 w0 _ ?z1 ?z2 A20.out).mono ?_); (case z1 => exact kR2 HI0); (case z2 => exact kR3 HB); rintro e w26 ⟨rfl, hi, hb, hk⟩; replace HO_5 := yD (zF (Kd.R_keep (bB.apart (show bB w0 _ g s0_0 x1001_1 x1002_1 from kR2 HI0) (kA HO_5) (by decide)) hk (fun _ h => h.2)) (fun _ h => h.1)); replace HK := yD (aU.trans (kR4 HK) hk (.inl rfl)); replace HB := yD (hb); replace HI0 := yD (hi); clear hb hk hi) | (refine gD 32 ?_; refine Kd.R_lit (Kd.int .i64) _ 2 ?hg (N := 32) ?hd (xs := ([40, 39, 17] : List Int)) (inner := [.int .i64 40, .int .i64 39, .int .i64 17]) (ok := fun _ => True) (okp := fun _ => True) ?hr ?hp (fun _ hk => hk) trivial (Below.refl _ _) (Nat.le_refl _) (by simp) ?_; (case hd => rfl); (case hg => rfl); (case hr => first | (go_simp; done) | (go_simp; rfl)); (case hp => exact (cW.one (show Kd.M (Kd.int .i64) _ _ _ 40 [.int .i64 40] from rfl) (cW.one (show Kd.M (Kd.int .i64) _ _ _ 39 [.int .i64 39] from rfl) (cW.one (show Kd.M (Kd.int .i64) _ _ _ 17 [.int .i64 17] from rfl) (cW.none _ _))))); intro v138 w27 ho28 hb hg_ hnew_; clear hg_ hnew_; (first | rw [← Ny137.out] at ho28 | (simp only [Int.reduceToNat] at ho28; rw [← Ny137.out] at ho28)); have HO139 := yD (yZ (yJ ho28 (yK (kA HO_5))) (keep_size (w := w) (g := g) (row := none) (kR4 HK))); replace HO_5 := yD (Kd.R_elder' (kA HO_5) (yH ho28) hb); replace HI0 := yD (bB.below (kR2 HI0) hb); replace HK := yD (aU.trans (kR4 HK) (aU.of_below hb g none) (.inl rfl)); replace HB := yD (zC (kR3 HB) hb); clear hb ho28; obtain ⟨Ao29, co29, eo29⟩ := Kd.bS HO139.out; subst eo29) | (refine gC 39 ?_; refine gL 33 Try.func39 _ (dw (spec_l00Src_among.calls g s0_0 t135 t136 _ _ y137 t140 t141 t142 w0 _ ?z1 ?z2 ?z3 ?z5 A22.out) fun w30 hi hb hk => ?_); (case z1 => exact kR2 HI0); (case z2 => exact kR3 HB); (case z3 => exact ⟨kV (zA HO139.out).2.2, (zA HO139.out).2.1⟩); (case z5 => exact far_slice (bB.own_ne HI0.out HO139.out (by decide))); replace HO_5 := yD (zF (Kd.R_keep (bB.apart (show bB w0 _ g s0_0 t135 t136 from kR2 HI0) (kA HO_5) (by decide)) hk (fun _ h => h.2)) (fun _ h => h.1)); replace HO139 := yD (zF (Kd.R_keep (bB.apart (show bB w0 _ g s0_0 t135 t136 from kR2 HI0) (kA HO139) (by decide)) hk (fun _ h => h.2)) (fun _ h => h.1)); replace HK := yD (aU.trans (kR4 HK) hk (.inl rfl)); replace HB := yD (hb); replace HI0 := yD (hi); clear hb hk hi; have p24 : 0 ≤ (0 : Int) := (by omega); have q24 : (0 : Int) < ((x5_1.length : Int) : Int) := zP (by assumption); have qi24 : (0 < x5_1.length) = True := eq_true (by omega); obtain ⟨go24, co24, eo24, gb24, gl24, cl24, HG24⟩ := Kd.R_form HO_5.out (by omega); (first | cases eo24 | (injection eo24 with ea_ en_ ec_; (first | subst ea_ | (injection ea_ with ea_; subst ea_)); subst ec_; clear en_)); have GB24 := yD gb24; have GG24 := yD HG24; clear gb24 gl24 HG24; obtain ⟨hx24_0, hf24_0⟩ := Kd.R_celln 0 HO_5.out (0 : Int) p24 q24; (try rw [show ((0 : Int)).toNat = 0 from rfl] at hx24_0); (try simp only [Nat.reduceMul, Nat.zero_mul, Nat.zero_add, Nat.reduceAdd] at hx24_0); (try rw [show ((0 : Int)).toNat = 0 from rfl] at hf24_0); (try simp only [Nat.reduceMul, Nat.zero_mul, Nat.zero_add, Nat.reduceAdd] at hf24_0); replace p24 := eq_true p24; replace q24 := eq_true q24; have n_ := yD (zF (ok' := (fun k_ => oB (.slice Ao29 y137.length co29) k_)) HO_5.out (fun k_ hk => hk.2)); clear HO_5; have HO_5 := n_; clear n_; obtain ⟨hy31_, hz31_⟩ := Kd.R_celln 0 HO_5.out (0 : Int) (by omega) (zP (by assumption)); (try simp only [Int.reduceToNat, Int.toNat_zero, Int.toNat_ofNat, Nat.reduceMul, Nat.zero_mul, Nat.zero_add] at hy31_ hz31_); (try rw [show ((0 : Int)).toNat = 0 from rfl] at hy31_); (try rw [show ((0 : Int)).toNat = 0 from rfl] at hz31_); have HP31 := Kd.R_putg HO_5.out (0 : Int) t140) | ((with_reducible refine gate_store (t := 2) (p := 34) rfl ?_); refine store_event (t := 2) (p := 34) (v := ?vo_w32) (w1 := (w30.setCell ⟨go24, (0 : Int).toNat, none⟩ (.int .i64 t140))) ?hg ?ho ?hn ?hr ?_; (case ho => rfl); (case hg => rfl); (case hn => rfl); (case hr => first | (go_simp; done) | (go_simp; rfl)); intro w32 hw; have hg : w30.grownBy w32 (some go24) := (by rw [hw]; exact HP31.2); have hp_ : Kd.R (Kd.int .i64) 2 w32 w.heap.size (fun k_ => oB (.slice Ao29 y137.length co29) k_) (.slice (some ⟨go24, 0, none⟩) x5_1.length co25) y143 := (by rw [hw, Ny143.out]; exact HP31.1); clear HP31; replace HI0 := yD (bB.grown (kR2 HI0) hg (bB.own_ne HI0.out HO_5.out (by decide))); replace HO139 := yD (Kd.R_after (v := (.slice (some ⟨go24, 0, none⟩) x5_1.length co25)) (v1 := (.slice (some ⟨go24, 0, none⟩) x5_1.length co25)) (ok := (fun _ => True)) (kA HO139) hg (.inl rfl)); replace HB := yD ((by rw [hw]; exact yE (HB.out) (Nat.le_trans HL.out GB24.out) : Below w0.heap.size w0 w32)); replace HK := yD (aU.trans (kR4 HK) (aU.of_grown hg g) (Kd.R_base2 HO_5.out)); replace HO_5 := yD (hp_); clear hg hw hp_))
   go_ret
   exact ⟨_, kE, mR HO_5 (fun _ hk => trivial), kR2 HI0, kR3 HB, kR4 HK⟩
def spec_l05DrawDims.f (k : Nat) (s0_0 : List Int) (s0_1 s0_2 : Int) : Option (List Int × Int × Int) := (spec_l00Src_among.f s0_0 s0_1 s0_2 (([1, 1, 2, 2, 2, 3, 3, 0] : List Int))).bind fun bt147 => ((spec_l05Draw.f k s0_0 bt147.2.1 bt147.2.2 bt147.1).bind fun bt150 => (some (bt150.1, bt150.2.1, bt150.2.2)))
theorem spec_l05DrawDims.calls (k : Nat) (g : Nat) (s0_0 : List Int) (s0_1 : Int) (s0_2 : Int) (r1 : List Int) (r2 : Int) (r3 : Int) (w0 w : World) (hI : bB w0 w g s0_0 s0_1 s0_2) (hB : Below w0.heap.size w0 w) (h : spec_l05DrawDims.f k s0_0 s0_1 s0_2 = some (r1, r2, r3)) :
 Calls Try.prog 15 #[.pointer (some ⟨g, 0, none⟩)] w fun e w' => ∃ v0_ : Value, e = .returned (v0_) ∧ Kd.R (Kd.int .i64) 2 w' w.heap.size (fun _ => True) v0_ r1 ∧ bB w0 w' g s0_0 r2 r3 ∧ Below w0.heap.size w0 w' ∧ aU w w' g none := by
 have HI0 := yD hI
 have HK := yD (aU.refl w g none)
 have HL := yD hB.size
 clear hI
 have HW0 := yD hB.size
 have HB := yD hB
 clear hB
 have H : ((spec_l00Src_among.f s0_0 s0_1 s0_2 (([1, 1, 2, 2, 2, 3, 3, 0] : List Int))).bind fun bt147 => ((spec_l05Draw.f k s0_0 bt147.2.1 bt147.2.2 bt147.1).bind fun bt150 => (some (bt150.1, bt150.2.1, bt150.2.2)))) = some (r1, r2, r3) := h
 clear h
 generalize hy144 : ((([1, 1, 2, 2, 2, 3, 3, 0] : List Int)) : List Int) = y144 at H
 have Ny144 := yD hy144.symm
 clear hy144
 replace ⟨⟨t147, t148, t149⟩, A2, H⟩ := sV H
 replace ⟨⟨t150, t153, t154⟩, A3, H⟩ := sV H
 simp only [Option.some.injEq, Prod.mk.injEq] at H
 obtain ⟨rfl, rfl, rfl⟩ := H
 go_enter Try.func15, Try.ntmps15
 go_wp2_with (first | (refine gD 5 ?_; refine Kd.R_lit (Kd.int .i64) _ 2 ?hg (N := 5) ?hd (xs := ([1, 1, 2, 2, 2, 3, 3, 0] : List Int)) (inner := [.int .i64 1, .int .i64 1, .int .i64 2, .int .i64 2, .int .i64 2, .int .i64 3, .int .i64 3, .int .i64 0]) (ok := fun _ => True) (okp := fun _ => True) ?hr ?hp (fun _ hk => hk) trivial (Below.refl _ _) (Nat.le_refl _) (by simp) ?_; (case hd => rfl); (case hg => rfl); (case hr => first | (go_simp; done) | (go_simp; rfl)); (case hp => exact (cW.one (show Kd.M (Kd.int .i64) _ _ _ 1 [.int .i64 1] from rfl) (cW.one (show Kd.M (Kd.int .i64) _ _ _ 1 [.int .i64 1] from rfl) (cW.one (show Kd.M (Kd.int .i64) _ _ _ 2 [.int .i64 2] from rfl) (cW.one (show Kd.M (Kd.int .i64) _ _ _ 2 [.int .i64 2] from rfl) (cW.one (show Kd.M (Kd.int .i64) _ _ _ 2 [.int .i64 2] from rfl) (cW.one (show Kd.M (Kd.int .i64) _ _ _ 3 [.int .i64 3] from rfl) (cW.one (show Kd.M (Kd.int .i64) _ _ _ 3 [.int .i64 3] from rfl) (cW.one (show Kd.M (Kd.int .i64) _ _ _ 0 [.int .i64 0] from rfl) (cW.none _ _)))))))))); intro v145 w4 ho5 hb hg_ hnew_; clear hg_ hnew_; (first | rw [← Ny144.out] at ho5 | (simp only [Int.reduceToNat] at ho5; rw [← Ny144.out] at ho5)); have HO146 := yD (yZ ho5 (keep_size (w := w) (g := g) (row := none) (kR4 HK))); replace HI0 := yD (bB.below (kR2 HI0) hb); replace HK := yD (aU.trans (kR4 HK) (aU.of_below hb g none) (.inl rfl)); replace HB := yD (zC (kR3 HB) hb); clear hb ho5; obtain ⟨Ao6, co6, eo6⟩ := Kd.bS HO146.out; subst eo6) | (refine gC 39 ?_; refine gL 6 Try.func39 _ (dw (spec_l00Src_among.calls g s0_0 s0_1 s0_2 _ _ y144 t147 t148 t149 w0 _ ?z1 ?z2 ?z3 ?z5 A2.out) fun w7 hi hb hk => ?_); (case z1 => exact kR2 HI0); (case z2 => exact kR3 HB); (case z3 => exact ⟨kV (zA HO146.out).2.2, (zA HO146.out).2.1⟩); (case z5 => exact far_slice (bB.own_ne HI0.out HO146.out (by decide))); replace HO146 := yD (zF (Kd.R_keep (bB.apart (show bB w0 _ g s0_0 s0_1 s0_2 from kR2 HI0) (kA HO146) (by decide)) hk (fun _ h => h.2)) (fun _ h => h.1)); replace HK := yD (aU.trans (kR4 HK) hk (.inl rfl)); replace HB := yD (hb); replace HI0 := yD (hi); clear hb hk hi) | (refine gC 40 ?_; refine gL 9 Try.func40 _ ((spec_l05Draw.calls k g s0_0 t148 t149 t147 t150 t153 t154 w0 _ ?z1 ?z2 A3.out).mono ?_); (case z1 => exact kR2 HI0); (case z2 => exact kR3 HB); rintro e w8 ⟨v151, rfl, ho0, hi, hb, hk⟩; refine ⟨_, rfl, ?_⟩; have HO152 := yD (yZ (yJ ho0 (yK (kA HO146))) (keep_size (w := w) (g := g) (row := none) (kR4 HK))); replace HO146 := yD (zF (yI (Kd.R_oldK (bB.apart (show bB w0 _ g s0_0 t148 t149 from kR2 HI0) (kA HO146) (by decide)) hk) (yH ho0)) (fun _ h_ => h_.1)); replace HK := yD (aU.trans (kR4 HK) hk (.inl rfl)); replace HB := yD (hb); replace HI0 := yD (hi); clear hb hk hi ho0))
 go_ret
 exact ⟨_, kE, mR HO152 (fun _ hk => trivial), kR2 HI0, kR3 HB, kR4 HK⟩
def cE.l0 : Nat → List Int → Int → Int → Option (Int)
 | 0, _, _, _ => none
 | k + 1, x0, x3, x4 => if x4 < (x0.length : Int) then (if 0 ≤ x4 then (cE.l0 k x0 (wrap64 (x3 * (rd x0 x4))) (wrap64 (x4 + 1))) else (none)) else (some x3)
def cE.f (k : Nat) (l0 : List Int) : Option (Int) := cE.l0 k l0 1 0
theorem cE.calls (k : Nat) (A0 : Option Addr) (c0 : Nat) (l0 : List Int) (r : Int) (w : World) (C0 : Cm (Kd.int .i64) w A0 c0 l0) (h : cE.f k l0 = some r) :
 Calls Try.prog 28 #[.slice A0 l0.length c0] w fun e w' => e = .returned (.int .i64 r) ∧ aT w w' := by
 unfold cE.f at h
 have H := h
 clear h
 have H' := yD H
 clear H; go_enter Try.func28, Try.ntmps28
 go_wp2
 go_loopg [3, 4] k (fun kq v3 v4 w' => ∃ (x3_1 : Int) (x4_1 : Int), v3 = .int .i64 x3_1 ∧ v4 = .int .i64 x4_1 ∧ aC (cE.l0 kq l0 x3_1 x4_1 = some r) ∧ aC (kq ≤ k) ∧ aT w w')
 case atStart => exact ⟨(1), (0), kF, kF, H', ⟨Nat.le_refl _⟩, by repeat (first | exact aT.refl _ | apply aT.step)⟩
 case round =>
  clear H'
  obtain ⟨x3_1, x4_1, rfl, rfl, HA, HK1, ⟨m1, rfl⟩⟩ := hrel
  cases gk with
  | zero => exact absurd HA.out (by simp [cE.l0])
  | succ k1 =>
   have H := HA.out; clear HA
   simp only [cE.l0] at H
   replace H := sG H; rcases H with ⟨c2b0, H⟩ | ⟨c2b0, H⟩
   · obtain rfl := sJ H
     go_wp2
     go_ret
     exact ⟨by first | rfl | (simp; done) | (simp [*]; done), by repeat (first | exact aT.refl _ | apply aT.step)⟩
   replace ⟨c3b0, H⟩ := sE H
   have H' := yD H
   clear H
   obtain ⟨p155, q155, ad155, e155, hx155_0⟩ := sI (Kd.aX C0.r x4_1)
   cases e155
   go_wp2
   go_roundg k1
   case measure => have := HK1.out; omega
   case rel => exact ⟨(wrap64 (x3_1 * (rd l0 x4_1))), (wrap64 (x4_1 + 1)), kF, kF, H', ⟨by have := HK1.out; omega⟩, by repeat (first | exact aT.refl _ | apply aT.step)⟩
def spec_l00Min.f (a0 a1 : Int) : Option (Int) := if a0 < a1 then (some a0) else (some a1)
theorem spec_l00Min.calls (a0 : Int) (a1 : Int) (r : Int) (w : World) (h : spec_l00Min.f a0 a1 = some r) :
 Calls Try.prog 65 #[.int .i64 a0, .int .i64 a1] w fun e w' => e = .returned (.int .i64 r) ∧ aT w w' := by
 unfold spec_l00Min.f at h
 have H := h
 clear h
 replace H := sG H; rcases H with ⟨c3b0, H⟩ | ⟨c3b0, H⟩
 ·
  obtain rfl := sJ H; go_enter Try.func65, Try.ntmps65
  go_wp2
  go_ret
  exact ⟨by first | rfl | (simp; done) | (simp [*]; done), by repeat (first | exact aT.refl _ | apply aT.step)⟩
 obtain rfl := sJ H; go_enter Try.func65, Try.ntmps65
 go_wp2
 go_ret
 exact ⟨by first | rfl | (simp; done) | (simp [*]; done), by repeat (first | exact aT.refl _ | apply aT.step)⟩
def cC.l0 : Nat → List Int → Int → List Int → Int → Int → Int → List Int → List Int → List Int → List Int → Option (Int × List Int × List Int × List Int × List Int × (List (S68)) × Int × Int)
 | 0, _, _, _, _, _, _, _, _, _, _ => none
 | k + 1, x1, x6, x1000, x1001, x1002, x158000, x158001, x158002, x158003, x158004 => if x6 < (x1.length : Int) then (if 0 ≤ x6 then ((bL.f x1000 x1001 x1002 (rd x1 x6)).bind fun bt159 => ((spec_l00Min.f (wrap64 ((rd x1 x6) - bt159.1)) 3).bind fun t163 => ((bL.f x1000 bt159.2.1 bt159.2.2 t163).bind fun bt164 => ((bL.f x1000 bt164.2.1 bt164.2.2 3).bind fun bt167 => (if (wrap64 ((wrap64 (1 + bt164.1)) + bt167.1)) = 0 then (none) else (if x158001.length < 17592186044416 then (if x158004.length < 17592186044416 then (if x158002.length < 17592186044416 then ((bL.f x1000 bt167.2.1 bt167.2.2 (wrap64 ((wrap64 (Int.tdiv (wrap64 ((wrap64 ((rd x1 x6) - bt159.1)) - (wrap64 (1 + bt164.1)))) (wrap64 ((wrap64 (1 + bt164.1)) + bt167.1)))) + 1))).bind fun bt179 => (if x158003.length < 17592186044416 then (cC.l0 k x1 (wrap64 (x6 + 1)) x1000 bt179.2.1 bt179.2.2 x158000 (x158001 ++ [bt159.1]) (x158002 ++ [wrap64 ((wrap64 (1 + bt164.1)) + bt167.1)]) (x158003 ++ [wrap64 (1 + bt179.1)]) (x158004 ++ [wrap64 (1 + bt164.1)])) else (none))) else (none)) else (none)) else (none))))))) else (none)) else (some (x158000, x158001, x158002, x158003, x158004, ([] : List (S68)), x1001, x1002))
def cC.f (k : Nat) (s0_0 : List Int) (s0_1 s0_2 : Int) (l1 : List Int) : Option (Int × List Int × List Int × List Int × List Int × (List (S68)) × Int × Int) := cC.l0 k l1 0 s0_0 s0_1 s0_2 3 ([] : List Int) ([] : List Int) ([] : List Int) ([] : List Int)
def cC.T13 : Bool × List (List Nat × List Nat) := (true, [([], []), ([0], [0]), ([], []), ([], []), ([2, 3], [2, 3]), ([4], [4]), ([5], [5]), ([1, 6, 4], [1, 6]), ([0, 1, 2, 3, 4, 5, 6, 7], []), ([8, 7, 7, 0, 1, 2, 3, 4, 5, 6, 7], [7, 8])])
def cC.B13 : List Nat := [0, 1, 0, 0, 12, 28, 60, 127, 255, 511]
theorem cC.tab13 : rtab .any (opsOf Try.f42 13) = cC.T13 := by kernel_rfl
theorem cC.bits13 : waitsOk cC.T13.2 cC.B13 = true := by kernel_rfl
theorem cC.calls (k : Nat) (g : Nat) (s0_0 : List Int) (s0_1 : Int) (s0_2 : Int) (A1 : Option Addr) (c1 : Nat) (l1 : List Int) (r1 : Int) (r2 : List Int) (r3 : List Int) (r4 : List Int) (r5 : List Int) (r6 : List (S68)) (r7 : Int) (r8 : Int) (w0 w : World) (hI : bB w0 w g s0_0 s0_1 s0_2) (hB : Below w0.heap.size w0 w) (C1 : Cm (Kd.int .i64) w A1 c1 l1) (hf1 : ∀ ad, A1 = some ad → 0 < l1.length → ad.block ≠ g) (h : cC.f k s0_0 s0_1 s0_2 l1 = some (r1, r2, r3, r4, r5, r6, r7, r8)) :
 Calls Try.prog 42 #[.pointer (some ⟨g, 0, none⟩), .slice A1 l1.length c1] w fun e w' => ∃ v1_ v2_ v3_ v4_ v5_ : Value, e = .returned (.agg #[.int .i64 r1, v1_, v2_, v3_, v4_, v5_]) ∧ Kd.R (Kd.int .i64) 2 w' w.heap.size (fun k_ => some k_ ≠ (v2_ : Value).ownBlock ∧ some k_ ≠ (v3_ : Value).ownBlock ∧ some k_ ≠ (v4_ : Value).ownBlock) v1_ r2 ∧ Kd.R (Kd.int .i64) 2 w' w.heap.size (fun k_ => some k_ ≠ (v1_ : Value).ownBlock ∧ some k_ ≠ (v3_ : Value).ownBlock ∧ some k_ ≠ (v4_ : Value).ownBlock) v2_ r3 ∧ Kd.R (Kd.int .i64) 2 w' w.heap.size (fun k_ => some k_ ≠ (v1_ : Value).ownBlock ∧ some k_ ≠ (v2_ : Value).ownBlock ∧ some k_ ≠ (v4_ : Value).ownBlock) v3_ r4 ∧ Kd.R (Kd.int .i64) 2 w' w.heap.size (fun k_ => some k_ ≠ (v1_ : Value).ownBlock ∧ some k_ ≠ (v2_ : Value).ownBlock ∧ some k_ ≠ (v3_ : Value).ownBlock) v4_ r5 ∧ Kd.S k68 68 w' w.heap.size (fun k_ => some k_ ≠ (v1_ : Value).ownBlock ∧ some k_ ≠ (v2_ : Value).ownBlock ∧ some k_ ≠ (v3_ : Value).ownBlock ∧ some k_ ≠ (v4_ : Value).ownBlock) v5_ r6 ∧ bB w0 w' g s0_0 r7 r8 ∧ Below w0.heap.size w0 w' ∧ aU w w' g none := by
 have hu26 := Try.underlying26
 have HI0 := yD hI
 have HK := yD (aU.refl w g none)
 have HL := yD hB.size
 clear hI
 have HW0 := yD hB.size
 have HB := yD hB
 clear hB
 have H : (cC.l0 k l1 0 s0_0 s0_1 s0_2 3 ([] : List Int) ([] : List Int) ([] : List Int) ([] : List Int)) = some (r1, r2, r3, r4, r5, r6, r7, r8) := h
 clear h
 have H' := yD H
 clear H; go_enter Try.func42, Try.ntmps42
 go_wp2_with (first | (refine gD 4 ?_; refine bE (N := 4) (cs := #[.int .i64 0, .slice none 0 0, .slice none 0 0, .slice none 0 0, .slice none 0 0, .slice none 0 0]) (t := 26) ?_; intro gb156 hg w3 hbox hb; replace HB := yD (zC (kR3 HB) hb); have BK156 := yD (hbox); have GW156 := yD ((by rw [hg]; exact (keep_size (w := w) (g := g) (row := none) (kR4 HK)) : w.heap.size ≤ gb156)); have GW156 := yD ((Nat.le_trans HW0.out (by rw [hg]; exact (keep_size (w := w) (g := g) (row := none) (kR4 HK)) : w.heap.size ≤ gb156) : w0.heap.size ≤ gb156)); replace HK := yD (aU.trans (kR4 HK) (aU.of_below hb g none) (.inl rfl)); have NB0_156 := yD ((by rw [hg]; exact Nat.ne_of_lt (bB.lt (show bB w0 _ g s0_0 s0_1 s0_2 from kR2 HI0)) : g ≠ gb156)); have NB156_0 := yD ((by rw [hg]; exact Nat.ne_of_gt (bB.lt (show bB w0 _ g s0_0 s0_1 s0_2 from kR2 HI0)) : gb156 ≠ g)); replace HI0 := yD (bB.below (kR2 HI0) hb); clear hb hbox hg) | (refine gD 5 ?_; refine bE (N := 5) (cs := #[.int .i64 0, .slice none 0 0, .slice none 0 0, .slice none 0 0, .slice none 0 0, .slice none 0 0]) (t := 26) ?_; intro gb157 hg w4 hbox hb; replace HB := yD (zC (kR7 HB) hb); have BK157 := yD (hbox); have GW157 := yD ((by rw [hg]; exact (keep_size (w := w) (g := g) (row := none) (kR6 HK)) : w.heap.size ≤ gb157)); have GW157 := yD ((Nat.le_trans HW0.out (by rw [hg]; exact (keep_size (w := w) (g := g) (row := none) (kR6 HK)) : w.heap.size ≤ gb157) : w0.heap.size ≤ gb157)); replace HK := yD (aU.trans (kR6 HK) (aU.of_below hb g none) (.inl rfl)); have NB156_157 := yD ((by rw [hg]; exact Nat.ne_of_lt (cT (kN BK156)) : gb156 ≠ gb157)); have NB157_156 := yD ((by rw [hg]; exact Nat.ne_of_gt (cT (kN BK156)) : gb157 ≠ gb156)); replace BK156 := zY BK156 hb; have NB0_157 := yD ((by rw [hg]; exact Nat.ne_of_lt (bB.lt (show bB w0 _ g s0_0 s0_1 s0_2 from kR5 HI0)) : g ≠ gb157)); have NB157_0 := yD ((by rw [hg]; exact Nat.ne_of_gt (bB.lt (show bB w0 _ g s0_0 s0_1 s0_2 from kR5 HI0)) : gb157 ≠ g)); replace HI0 := yD (bB.below (kR5 HI0) hb); clear hb hbox hg; have hnb5 := NB157_156.out; have hnc5 := NB156_157.out; have hnb6 := NB157_0.out; have hnc6 := NB0_157.out; have := cf6_ BK157.out))
 (try simp only [Act.put, zH, zI, zJ])
 go_loopg [6] k (fun kq v6 w' => ∃ (x6_1 : Int) (x1001_1 : Int) (x1002_1 : Int) (x158001_1 : List Int) (x158002_1 : List Int) (x158003_1 : List Int) (x158004_1 : List Int) (u158001 : Value) (u158002 : Value) (u158003 : Value) (u158004 : Value), v6 = .int .i64 x6_1 ∧ aC (cC.l0 kq l1 x6_1 s0_0 x1001_1 x1002_1 3 x158001_1 x158002_1 x158003_1 x158004_1 = some (r1, r2, r3, r4, r5, r6, r7, r8)) ∧ aC (kq ≤ k) ∧ aC (Kd.R (Kd.int .i64) 2 w' w.heap.size (fun k_ => oB u158002 k_ ∧ oB u158003 k_ ∧ oB u158004 k_) u158001 x158001_1) ∧ aC (Kd.R (Kd.int .i64) 2 w' w.heap.size (fun k_ => oB u158001 k_ ∧ oB u158003 k_ ∧ oB u158004 k_) u158002 x158002_1) ∧ aC (Kd.R (Kd.int .i64) 2 w' w.heap.size (fun k_ => oB u158001 k_ ∧ oB u158002 k_ ∧ oB u158004 k_) u158003 x158003_1) ∧ aC (Kd.R (Kd.int .i64) 2 w' w.heap.size (fun k_ => oB u158001 k_ ∧ oB u158002 k_ ∧ oB u158003 k_) u158004 x158004_1) ∧ aC (w'.heap[gb156]? = some (.cells #[.int .i64 0, (.slice none 0 0), (.slice none 0 0), (.slice none 0 0), (.slice none 0 0), (.slice none 0 0)] 26 (0, 0))) ∧ aC (w'.heap[gb157]? = some (.cells #[.int .i64 3, u158001, u158002, u158003, u158004, (.slice none 0 0)] 26 (0, 0))) ∧ aC (bB w0 w' g s0_0 x1001_1 x1002_1) ∧ aC (aU w w' g none) ∧ aC (Below w0.heap.size w0 w'))
 case atStart => exact ⟨(0), (s0_1), (s0_2), (([] : List Int)), (([] : List Int)), (([] : List Int)), (([] : List Int)), (.slice none 0 0), (.slice none 0 0), (.slice none 0 0), (.slice none 0 0), kF, H', ⟨Nat.le_refl _⟩, ⟨by first | exact Kd.R_nil _ _ _ _ _ | exact Kd.N_nil _ _ _ _ _ | exact Kd.V_nil _ _ _ _ _ | exact Kd.Q_nil _ _ _ _ _ | exact Kd.S_nil _ _ _ _ _⟩, ⟨by first | exact Kd.R_nil _ _ _ _ _ | exact Kd.N_nil _ _ _ _ _ | exact Kd.V_nil _ _ _ _ _ | exact Kd.Q_nil _ _ _ _ _ | exact Kd.S_nil _ _ _ _ _⟩, ⟨by first | exact Kd.R_nil _ _ _ _ _ | exact Kd.N_nil _ _ _ _ _ | exact Kd.V_nil _ _ _ _ _ | exact Kd.Q_nil _ _ _ _ _ | exact Kd.S_nil _ _ _ _ _⟩, ⟨by first | exact Kd.R_nil _ _ _ _ _ | exact Kd.N_nil _ _ _ _ _ | exact Kd.V_nil _ _ _ _ _ | exact Kd.Q_nil _ _ _ _ _ | exact Kd.S_nil _ _ _ _ _⟩, ⟨by (with_reducible repeat (first | refine yM ?_ _ | refine yO ?_ | refine yN ?_ _)); refine blk_far ?_ NB156_157.out _; (with_reducible repeat (first | refine yM ?_ _ | refine yO ?_ | refine yN ?_ _)); refine blk_far ?_ NB156_157.out _; (with_reducible repeat (first | refine yM ?_ _ | refine yO ?_ | refine yN ?_ _)); refine blk_far ?_ NB156_157.out _; (with_reducible repeat (first | refine yM ?_ _ | refine yO ?_ | refine yN ?_ _)); refine blk_far ?_ NB156_157.out _; (with_reducible repeat (first | refine yM ?_ _ | refine yO ?_ | refine yN ?_ _)); refine blk_far ?_ NB156_157.out _; (with_reducible repeat (first | refine yM ?_ _ | refine yO ?_ | refine yN ?_ _)); refine blk_far ?_ NB156_157.out _; (with_reducible repeat (first | refine yM ?_ _ | refine yO ?_ | refine yN ?_ _)); exact BK156.out⟩, ⟨by (with_reducible repeat (first | refine yM ?_ _ | refine yO ?_ | refine yN ?_ _)); exact bA6_ BK157.out⟩, ⟨kR5 HI0⟩, ⟨kR6 HK⟩, ⟨kR7 HB⟩⟩
 case round =>
  clear H'
  obtain ⟨x6_1, x1001_1, x1002_1, x158001_1, x158002_1, x158003_1, x158004_1, u158001, u158002, u158003, u158004, rfl, HA, HK1, HO_158001, HO_158002, HO_158003, HO_158004, BK156, BK157, HI0, HK, HB⟩ := hrel
  cases gk with
  | zero => exact absurd HA.out (by simp [cC.l0])
  | succ k1 =>
   have H := HA.out; clear HA
   simp only [cC.l0] at H
   replace H := sG H; rcases H with ⟨c8b0, H⟩ | ⟨c8b0, H⟩
   ·
    simp only [Option.some.injEq, Prod.mk.injEq] at H
    obtain ⟨rfl, rfl, rfl, rfl, rfl, rfl, rfl, rfl⟩ := H
    have hnb41 := NB157_156.out; have hnc41 := NB156_157.out; have hnb42 := NB157_0.out; have hnc42 := NB0_157.out
    have := cf6_ BK157.out
    have hnb44 := NB156_0.out; have hnc44 := NB0_156.out
    have := cf6_ BK156.out
    obtain ⟨Ao46, co46, eo46⟩ := Kd.bS HO_158001.out
    subst eo46
    obtain ⟨Ao47, co47, eo47⟩ := Kd.bS HO_158002.out
    subst eo47
    obtain ⟨Ao48, co48, eo48⟩ := Kd.bS HO_158003.out
    subst eo48
    obtain ⟨Ao49, co49, eo49⟩ := Kd.bS HO_158004.out
    subst eo49
    go_wp2
    refine bodyPost_ret (results_cell_row rfl _ _ gb156 26 #[.int .i64 3, .slice Ao46 x158001_1.length co46, .slice Ao47 x158002_1.length co47, .slice Ao48 x158003_1.length co48, .slice Ao49 x158004_1.length co49, .slice none 0 0] (0, 0) _ rfl (by (with_reducible repeat (first | refine yM ?_ _ | refine yO ?_ | refine yN ?_ _)); exact bA6_ BK156.out) Try.underlying26 rfl (by kernel_rfl)) rfl ?_
    exact ⟨_, _, _, _, _, kE, by (with_reducible repeat (first | apply yA | apply yB | apply yC)); exact zF (yS_ (yS_ (yS_ (yS_ (yS_ (yS_ (Kd.bQ HO_158001.out BK156.out (by decide)))))))) (fun _ hk => ⟨hk.1.1, ⟨hk.1.2.1, hk.1.2.2⟩⟩), by (with_reducible repeat (first | apply yA | apply yB | apply yC)); exact zF (yS_ (yS_ (yS_ (yS_ (yS_ (yS_ (Kd.bQ HO_158002.out BK156.out (by decide)))))))) (fun _ hk => ⟨hk.1.1, ⟨hk.1.2.1, hk.1.2.2⟩⟩), by (with_reducible repeat (first | apply yA | apply yB | apply yC)); exact zF (yS_ (yS_ (yS_ (yS_ (yS_ (yS_ (Kd.bQ HO_158003.out BK156.out (by decide)))))))) (fun _ hk => ⟨hk.1.1, ⟨hk.1.2.1, hk.1.2.2⟩⟩), by (with_reducible repeat (first | apply yA | apply yB | apply yC)); exact zF (yS_ (yS_ (yS_ (yS_ (yS_ (yS_ (Kd.bQ HO_158004.out BK156.out (by decide)))))))) (fun _ hk => ⟨hk.1.1, ⟨hk.1.2.1, hk.1.2.2⟩⟩), by first | exact Kd.S_nil _ _ _ _ _ | exact Kd.N_nil _ _ _ _ _ | exact Kd.V_nil _ _ _ _ _ | exact Kd.Q_nil _ _ _ _ _ | exact Kd.R_nil _ _ _ _ _, kR5 HI0, kR7 HB, kR6 HK⟩
   replace ⟨c9b0, H⟩ := sE H
   replace ⟨⟨t159, t160, t161⟩, A10, H⟩ := sV H
   replace ⟨t163, A11, H⟩ := sV H
   replace ⟨⟨t164, t165, t166⟩, A12, H⟩ := sV H
   replace ⟨⟨t167, t168, t169⟩, A13, H⟩ := sV H
   by_cases c14 : (wrap64 ((wrap64 (1 + t164)) + t167)) = 0
   · rw [if_pos c14] at H
     exact absurd H (by simp)
   ·
    rw [if_neg c14] at H
    have c14b0 : ((wrap64 ((wrap64 (1 + t164)) + t167)) == 0) = false := beq_eq_false_iff_ne.mpr c14
    have c14b1 : ((wrap64 ((wrap64 (1 + t164)) + t167)) != 0) = true := bne_iff_ne.mpr c14
    replace ⟨LMc15, H⟩ := sM H
    generalize hy170 : ((x158001_1 ++ [t159]) : List Int) = y170 at H
    have Ny170 := yD hy170.symm
    clear hy170
    replace ⟨LMc16, H⟩ := sM H
    generalize hy173 : ((x158004_1 ++ [wrap64 (1 + t164)]) : List Int) = y173 at H
    have Ny173 := yD hy173.symm
    clear hy173
    replace ⟨LMc17, H⟩ := sM H
    generalize hy176 : ((x158002_1 ++ [wrap64 ((wrap64 (1 + t164)) + t167)]) : List Int) = y176 at H
    have Ny176 := yD hy176.symm
    clear hy176
    replace ⟨⟨t179, t180, t181⟩, A18, H⟩ := sV H
    replace ⟨LMc19, H⟩ := sM H
    generalize hy182 : ((x158003_1 ++ [wrap64 (1 + t179)]) : List Int) = y182 at H
    have Ny182 := yD hy182.symm
    clear hy182
    have H' := yD H
    clear H
    obtain ⟨p158, q158, ad158, e158, hx158_0⟩ := sI (Kd.aX C1.r x6_1)
    cases e158
    replace hx158_0 := keep_cell HK.out hx158_0 (by have h1_ := of_eq_true p158; have h2_ := of_eq_true q158; first | (rw [add_block]; exact hf1 _ rfl (by omega)) | exact hf1 _ rfl (by omega) | exact hf1 ad158 rfl (by omega))
    try go_wp2_with (first | (refine gC 41 ?_; refine gL 24 Try.func41 _ (dw (bL.calls g s0_0 x1001_1 x1002_1 (rd l1 x6_1) t159 t160 t161 w0 _ ?z1 ?z2 A10.out) fun w20 hi hb hk => ?_); (case z1 => exact kR5 HI0); (case z2 => exact kR7 HB); replace HO_158001 := yD (zF (Kd.R_keep (bB.apart (show bB w0 _ g s0_0 x1001_1 x1002_1 from kR5 HI0) (kA HO_158001) (by decide)) hk (fun _ h => h.2)) (fun _ h => h.1)); replace HO_158002 := yD (zF (Kd.R_keep (bB.apart (show bB w0 _ g s0_0 x1001_1 x1002_1 from kR5 HI0) (kA HO_158002) (by decide)) hk (fun _ h => h.2)) (fun _ h => h.1)); replace HO_158003 := yD (zF (Kd.R_keep (bB.apart (show bB w0 _ g s0_0 x1001_1 x1002_1 from kR5 HI0) (kA HO_158003) (by decide)) hk (fun _ h => h.2)) (fun _ h => h.1)); replace HO_158004 := yD (zF (Kd.R_keep (bB.apart (show bB w0 _ g s0_0 x1001_1 x1002_1 from kR5 HI0) (kA HO_158004) (by decide)) hk (fun _ h => h.2)) (fun _ h => h.1)); replace BK156 := yD (aU.blk hk (g' := gb156) (o := .cells #[.int .i64 0, .slice none 0 0, .slice none 0 0, .slice none 0 0, .slice none 0 0, .slice none 0 0] 26 (0, 0)) (kM BK156) NB156_0.out (by simp)); replace BK157 := yD (aU.blk hk (g' := gb157) (o := .cells #[.int .i64 3, u158001, u158002, u158003, u158004, .slice none 0 0] 26 (0, 0)) (kM BK157) NB157_0.out (by simp)); replace HK := yD (aU.trans (kR6 HK) hk (.inl rfl)); replace HB := yD (hb); replace HI0 := yD (hi); clear hb hk hi; have p162 : 0 ≤ (x6_1 : Int) := zP (by assumption); have q162 : x6_1 < (l1.length : Int) := zP (by assumption); obtain ⟨ad162, e162, hx162_0⟩ := Kd.aX C1.r x6_1 p162 q162; obtain rfl : ad158 = ad162 := (by injection e162); replace hx162_0 := keep_cell HK.out hx162_0 (by first | (rw [add_block]; exact hf1 _ rfl (by omega)) | exact hf1 _ rfl (by omega) | exact hf1 ad158 rfl (by omega)); replace p162 := eq_true p162; replace q162 := eq_true q162) | (refine gC 65 ?_; refine gL 33 Try.func65 _ (dm (spec_l00Min.calls (wrap64 ((rd l1 x6_1) - t159)) 3 t163 _ A11.out) fun nd => ?_); (try (rw [drewN_self w20]; generalize hq_ : World.drewN w20 _ = w20; replace HO_158001 := yD (Kd.R_at hq_ HO_158001.out); replace HO_158002 := yD (Kd.R_at hq_ HO_158002.out); replace HO_158003 := yD (Kd.R_at hq_ HO_158003.out); replace HO_158004 := yD (Kd.R_at hq_ HO_158004.out); replace BK156 := yD (blk_at hq_ BK156.out); replace BK157 := yD (blk_at hq_ BK157.out); replace HI0 := yD (bB.at_ hq_ HI0.out); replace HK := yD (keep_at hq_ HK.out); replace HB := yD (below_at hq_ HB.out); clear hq_))) | (refine gC 41 ?_; refine gL 34 Try.func41 _ (dw (bL.calls g s0_0 t160 t161 t163 t164 t165 t166 w0 _ ?z1 ?z2 A12.out) fun w21 hi hb hk => ?_); (case z1 => exact kR5 HI0); (case z2 => exact kR7 HB); replace HO_158001 := yD (zF (Kd.R_keep (bB.apart (show bB w0 _ g s0_0 t160 t161 from kR5 HI0) (kA HO_158001) (by decide)) hk (fun _ h => h.2)) (fun _ h => h.1)); replace HO_158002 := yD (zF (Kd.R_keep (bB.apart (show bB w0 _ g s0_0 t160 t161 from kR5 HI0) (kA HO_158002) (by decide)) hk (fun _ h => h.2)) (fun _ h => h.1)); replace HO_158003 := yD (zF (Kd.R_keep (bB.apart (show bB w0 _ g s0_0 t160 t161 from kR5 HI0) (kA HO_158003) (by decide)) hk (fun _ h => h.2)) (fun _ h => h.1)); replace HO_158004 := yD (zF (Kd.R_keep (bB.apart (show bB w0 _ g s0_0 t160 t161 from kR5 HI0) (kA HO_158004) (by decide)) hk (fun _ h => h.2)) (fun _ h => h.1)); replace BK156 := yD (aU.blk hk (g' := gb156) (o := .cells #[.int .i64 0, .slice none 0 0, .slice none 0 0, .slice none 0 0, .slice none 0 0, .slice none 0 0] 26 (0, 0)) (kM BK156) NB156_0.out (by simp)); replace BK157 := yD (aU.blk hk (g' := gb157) (o := .cells #[.int .i64 3, u158001, u158002, u158003, u158004, .slice none 0 0] 26 (0, 0)) (kM BK157) NB157_0.out (by simp)); replace HK := yD (aU.trans (kR6 HK) hk (.inl rfl)); replace HB := yD (hb); replace HI0 := yD (hi); clear hb hk hi) | (refine gC 41 ?_; refine gL 38 Try.func41 _ (dw (bL.calls g s0_0 t165 t166 3 t167 t168 t169 w0 _ ?z1 ?z2 A13.out) fun w22 hi hb hk => ?_); (case z1 => exact kR5 HI0); (case z2 => exact kR7 HB); replace HO_158001 := yD (zF (Kd.R_keep (bB.apart (show bB w0 _ g s0_0 t165 t166 from kR5 HI0) (kA HO_158001) (by decide)) hk (fun _ h => h.2)) (fun _ h => h.1)); replace HO_158002 := yD (zF (Kd.R_keep (bB.apart (show bB w0 _ g s0_0 t165 t166 from kR5 HI0) (kA HO_158002) (by decide)) hk (fun _ h => h.2)) (fun _ h => h.1)); replace HO_158003 := yD (zF (Kd.R_keep (bB.apart (show bB w0 _ g s0_0 t165 t166 from kR5 HI0) (kA HO_158003) (by decide)) hk (fun _ h => h.2)) (fun _ h => h.1)); replace HO_158004 := yD (zF (Kd.R_keep (bB.apart (show bB w0 _ g s0_0 t165 t166 from kR5 HI0) (kA HO_158004) (by decide)) hk (fun _ h => h.2)) (fun _ h => h.1)); replace BK156 := yD (aU.blk hk (g' := gb156) (o := .cells #[.int .i64 0, .slice none 0 0, .slice none 0 0, .slice none 0 0, .slice none 0 0, .slice none 0 0] 26 (0, 0)) (kM BK156) NB156_0.out (by simp)); replace BK157 := yD (aU.blk hk (g' := gb157) (o := .cells #[.int .i64 3, u158001, u158002, u158003, u158004, .slice none 0 0] 26 (0, 0)) (kM BK157) NB157_0.out (by simp)); replace HK := yD (aU.trans (kR6 HK) hk (.inl rfl)); replace HB := yD (hb); replace HI0 := yD (hi); clear hb hk hi; have hnb23 := NB157_156.out; have hnc23 := NB156_157.out; have hnb24 := NB157_0.out; have hnc24 := NB0_157.out; have := cf6_ BK157.out) | ((with_reducible refine gate_builtin (b := .append) (xs := #[.tmp 47, .tmp 49]) rfl ?_); at_builtin; refine Kd.R_append (Kd.int .i64) w.heap.size rfl (.tmp 47) (.tmp 49) 23 2 (.int .i64 0) 8 rfl Try.underlying23 info2 rfl (by decide) (by omega) u158001 x158001_1 t159 [.int .i64 t159] (fun k_ => oB u158002 k_ ∧ oB u158003 k_ ∧ oB u158004 k_) (fun _ => False) rfl rfl ?aP (fun _ hk => hk.elim) ?aF ?aO (Below.refl _ _) ?aS ?aL ?_; (case aP => exact rfl); (case aF => exact (fun k_ hk => ⟨Kd.cQ (yK (kA HO_158002)) k_ hk, Kd.cQ (yK (kA HO_158003)) k_ hk, Kd.cQ (yK (kA HO_158004)) k_ hk⟩)); (case aO => exact (kA HO_158001)); (case aS => exact (keep_size (w := w) (g := g) (row := none) (kR6 HK))); (case aL => have := LMc15.out; omega); intro v171 w26 ho hb hg hat; rw [← Ny170.out] at ho; replace HO_158002 := yD (Kd.R_after (ok := (fun k_ => oB u158003 k_ ∧ oB u158004 k_)) (mR HO_158002 (fun _ hk => ⟨⟨hk.2.1, hk.2.2⟩, hk.1⟩)) hg hat); replace HO_158003 := yD (Kd.R_after (ok := (fun k_ => oB u158002 k_ ∧ oB u158004 k_)) (mR HO_158003 (fun _ hk => ⟨⟨hk.2.1, hk.2.2⟩, hk.1⟩)) hg hat); replace HO_158004 := yD (Kd.R_after (ok := (fun k_ => oB u158002 k_ ∧ oB u158003 k_)) (mR HO_158004 (fun _ hk => ⟨⟨hk.2.1, hk.2.2⟩, hk.1⟩)) hg hat); replace BK156 := yD (blk_grown (g := gb156) (o := .cells #[.int .i64 0, .slice none 0 0, .slice none 0 0, .slice none 0 0, .slice none 0 0, .slice none 0 0] 26 (0, 0)) (kM BK156) hg (Kd.R_ne HO_158001.out BK156.out (by decide))); replace BK157 := yD (blk_grown (g := gb157) (o := .cells #[.int .i64 3, u158001, u158002, u158003, u158004, .slice none 0 0] 26 (0, 0)) (kM BK157) hg (Kd.R_ne HO_158001.out BK157.out (by decide))); replace HI0 := yD (bB.grown (kR5 HI0) hg (bB.own_ne HI0.out HO_158001.out (by decide))); replace HB := yD (below_weaken (kR7 HB) HL.out hb); replace HK := yD (aU.trans (kR6 HK) (aU.of_grown hg g) (Kd.R_base2 HO_158001.out)); have HO172 := yD (ho); clear HO_158001; clear ho hb hg hat; obtain ⟨Ao27, co27, eo27⟩ := Kd.bS HO172.out; subst eo27; have := cf6_ BK157.out) | ((with_reducible refine gate_builtin (b := .append) (xs := #[.tmp 53, .tmp 55]) rfl ?_); at_builtin; refine Kd.R_append (Kd.int .i64) w.heap.size rfl (.tmp 53) (.tmp 55) 23 2 (.int .i64 0) 8 rfl Try.underlying23 info2 rfl (by decide) (by omega) u158004 x158004_1 (wrap64 (1 + t164)) [.int .i64 (wrap64 (1 + t164))] (fun k_ => oB u158002 k_ ∧ oB u158003 k_ ∧ oB (.slice Ao27 y170.length co27) k_) (fun _ => False) rfl (by first | (go_simp; done) | (go_simp; rfl)) ?aP (fun _ hk => hk.elim) ?aF ?aO (Below.refl _ _) ?aS ?aL ?_; (case aP => exact rfl); (case aF => exact (fun k_ hk => ⟨Kd.cQ (yK (by (with_reducible repeat (first | apply yA | apply yB | apply yC)); exact (zF (yF (p := ⟨gb157, 1, none⟩) (Kd.bQ HO_158002.out BK157.out (by decide)) (fun _ hk => hk.2) (.slice Ao27 y170.length co27)) (fun _ h_ => h_.1)))) k_ hk, Kd.cQ (yK (by (with_reducible repeat (first | apply yA | apply yB | apply yC)); exact (zF (yF (p := ⟨gb157, 1, none⟩) (Kd.bQ HO_158003.out BK157.out (by decide)) (fun _ hk => hk.2) (.slice Ao27 y170.length co27)) (fun _ h_ => h_.1)))) k_ hk, Kd.cQ (yK (by (with_reducible repeat (first | apply yA | apply yB | apply yC)); exact (zF (yF (p := ⟨gb157, 1, none⟩) (Kd.bQ HO172.out BK157.out (by decide)) (fun _ hk => hk.2) (.slice Ao27 y170.length co27)) (fun _ h_ => h_.1)))) k_ hk⟩)); (case aO => exact (by (with_reducible repeat (first | apply yA | apply yB | apply yC)); exact zF (yS_ (Kd.bQ HO_158004.out BK157.out (by decide))) (fun _ hk => ⟨hk.1.1.1, ⟨hk.1.1.2, hk.1.2⟩⟩))); (case aS => exact (keep_size (w := w) (g := g) (row := none) (kR6 HK))); (case aL => have := LMc16.out; omega); intro v174 w29 ho hb hg hat; rw [← Ny173.out] at ho; replace HO_158002 := yD (Kd.R_after (ok := (fun k_ => oB u158003 k_ ∧ oB (.slice Ao27 y170.length co27) k_)) (by (with_reducible repeat (first | apply yA | apply yB | apply yC)); exact zF (yS_ (Kd.bQ HO_158002.out BK157.out (by decide))) (fun _ hk => ⟨⟨hk.1.1.1, hk.1.2⟩, hk.1.1.2⟩)) hg hat); replace HO_158003 := yD (Kd.R_after (ok := (fun k_ => oB u158002 k_ ∧ oB (.slice Ao27 y170.length co27) k_)) (by (with_reducible repeat (first | apply yA | apply yB | apply yC)); exact zF (yS_ (Kd.bQ HO_158003.out BK157.out (by decide))) (fun _ hk => ⟨⟨hk.1.1.1, hk.1.2⟩, hk.1.1.2⟩)) hg hat); replace BK156 := yD (blk_grown (g := gb156) (o := .cells #[.int .i64 0, .slice none 0 0, .slice none 0 0, .slice none 0 0, .slice none 0 0, .slice none 0 0] 26 (0, 0)) (by (with_reducible repeat (first | refine yM ?_ _ | refine yO ?_ | refine yN ?_ _)); refine blk_far ?_ NB156_157.out _; (with_reducible repeat (first | refine yM ?_ _ | refine yO ?_ | refine yN ?_ _)); exact BK156.out) hg (Kd.R_ne HO_158004.out BK156.out (by decide))); replace HI0 := yD (bB.grown (kR5 HI0) hg (bB.own_ne HI0.out HO_158004.out (by decide))); replace HO172 := yD (Kd.R_after (ok := (fun k_ => oB u158002 k_ ∧ oB u158003 k_)) (by (with_reducible repeat (first | apply yA | apply yB | apply yC)); exact zF (yS_ (Kd.bQ HO172.out BK157.out (by decide))) (fun _ hk => ⟨⟨hk.1.1, hk.1.2.1⟩, hk.1.2.2⟩)) hg hat); replace BK157 := yD (blk_grown (g := gb157) (o := .cells #[.int .i64 3, .slice Ao27 y170.length co27, u158002, u158003, u158004, .slice none 0 0] 26 (0, 0)) (by (with_reducible repeat (first | refine yM ?_ _ | refine yO ?_ | refine yN ?_ _)); refine blk_put (cs := #[.int .i64 3, u158001, u158002, u158003, u158004, .slice none 0 0]) ?_ 1 _ rfl; (with_reducible repeat (first | refine yM ?_ _ | refine yO ?_ | refine yN ?_ _)); exact BK157.out) hg (Kd.R_ne HO_158004.out BK157.out (by decide))); replace HB := yD (below_weaken (kR7 HB) HL.out hb); replace HK := yD (aU.trans (kR6 HK) (aU.of_grown hg g) (Kd.R_base2 HO_158004.out)); have HO175 := yD (ho); clear HO_158004; clear ho hb hg hat; obtain ⟨Ao30, co30, eo30⟩ := Kd.bS HO175.out; subst eo30; have := cf6_ BK157.out) | ((with_reducible refine gate_builtin (b := .append) (xs := #[.tmp 59, .tmp 61]) rfl ?_); at_builtin; refine Kd.R_append (Kd.int .i64) w.heap.size rfl (.tmp 59) (.tmp 61) 23 2 (.int .i64 0) 8 rfl Try.underlying23 info2 rfl (by decide) (by omega) u158002 x158002_1 (wrap64 ((wrap64 (1 + t164)) + t167)) [.int .i64 (wrap64 ((wrap64 (1 + t164)) + t167))] (fun k_ => oB u158003 k_ ∧ oB (.slice Ao27 y170.length co27) k_ ∧ oB (.slice Ao30 y173.length co30) k_) (fun _ => False) rfl (by first | (go_simp; done) | (go_simp; rfl)) ?aP (fun _ hk => hk.elim) ?aF ?aO (Below.refl _ _) ?aS ?aL ?_; (case aP => exact rfl); (case aF => exact (fun k_ hk => ⟨Kd.cQ (yK (by (with_reducible repeat (first | apply yA | apply yB | apply yC)); exact (zF (yF (p := ⟨gb157, 4, none⟩) (Kd.bQ HO_158003.out BK157.out (by decide)) (fun _ hk => hk.2) (.slice Ao30 y173.length co30)) (fun _ h_ => h_.1)))) k_ hk, Kd.cQ (yK (by (with_reducible repeat (first | apply yA | apply yB | apply yC)); exact (zF (yF (p := ⟨gb157, 4, none⟩) (Kd.bQ HO172.out BK157.out (by decide)) (fun _ hk => hk.2) (.slice Ao30 y173.length co30)) (fun _ h_ => h_.1)))) k_ hk, Kd.cQ (yK (by (with_reducible repeat (first | apply yA | apply yB | apply yC)); exact (zF (yF (p := ⟨gb157, 4, none⟩) (Kd.bQ HO175.out BK157.out (by decide)) (fun _ hk => hk.2) (.slice Ao30 y173.length co30)) (fun _ h_ => h_.1)))) k_ hk⟩)); (case aO => exact (by (with_reducible repeat (first | apply yA | apply yB | apply yC)); exact zF (yS_ (Kd.bQ HO_158002.out BK157.out (by decide))) (fun _ hk => ⟨hk.1.1.1, ⟨hk.1.1.2, hk.1.2⟩⟩))); (case aS => exact (keep_size (w := w) (g := g) (row := none) (kR6 HK))); (case aL => have := LMc17.out; omega); intro v177 w32 ho hb hg hat; rw [← Ny176.out] at ho; replace HO_158003 := yD (Kd.R_after (ok := (fun k_ => oB (.slice Ao27 y170.length co27) k_ ∧ oB (.slice Ao30 y173.length co30) k_)) (by (with_reducible repeat (first | apply yA | apply yB | apply yC)); exact zF (yS_ (Kd.bQ HO_158003.out BK157.out (by decide))) (fun _ hk => ⟨⟨hk.1.1.2, hk.1.2⟩, hk.1.1.1⟩)) hg hat); replace BK156 := yD (blk_grown (g := gb156) (o := .cells #[.int .i64 0, .slice none 0 0, .slice none 0 0, .slice none 0 0, .slice none 0 0, .slice none 0 0] 26 (0, 0)) (by (with_reducible repeat (first | refine yM ?_ _ | refine yO ?_ | refine yN ?_ _)); refine blk_far ?_ NB156_157.out _; (with_reducible repeat (first | refine yM ?_ _ | refine yO ?_ | refine yN ?_ _)); exact BK156.out) hg (Kd.R_ne HO_158002.out BK156.out (by decide))); replace HI0 := yD (bB.grown (kR5 HI0) hg (bB.own_ne HI0.out HO_158002.out (by decide))); replace HO172 := yD (Kd.R_after (ok := (fun k_ => oB u158003 k_ ∧ oB (.slice Ao30 y173.length co30) k_)) (by (with_reducible repeat (first | apply yA | apply yB | apply yC)); exact zF (yS_ (Kd.bQ HO172.out BK157.out (by decide))) (fun _ hk => ⟨⟨hk.1.1.2, hk.1.2⟩, hk.1.1.1⟩)) hg hat); replace HO175 := yD (Kd.R_after (ok := (fun k_ => oB u158003 k_ ∧ oB (.slice Ao27 y170.length co27) k_)) (by (with_reducible repeat (first | apply yA | apply yB | apply yC)); exact zF (yS_ (Kd.bQ HO175.out BK157.out (by decide))) (fun _ hk => ⟨⟨hk.1.2.1, hk.1.2.2⟩, hk.1.1⟩)) hg hat); replace BK157 := yD (blk_grown (g := gb157) (o := .cells #[.int .i64 3, .slice Ao27 y170.length co27, u158002, u158003, .slice Ao30 y173.length co30, .slice none 0 0] 26 (0, 0)) (by (with_reducible repeat (first | refine yM ?_ _ | refine yO ?_ | refine yN ?_ _)); refine blk_put (cs := #[.int .i64 3, .slice Ao27 y170.length co27, u158002, u158003, u158004, .slice none 0 0]) ?_ 4 _ rfl; (with_reducible repeat (first | refine yM ?_ _ | refine yO ?_ | refine yN ?_ _)); exact BK157.out) hg (Kd.R_ne HO_158002.out BK157.out (by decide))); replace HB := yD (below_weaken (kR7 HB) HL.out hb); replace HK := yD (aU.trans (kR6 HK) (aU.of_grown hg g) (Kd.R_base2 HO_158002.out)); have HO178 := yD (ho); clear HO_158002; clear ho hb hg hat; obtain ⟨Ao33, co33, eo33⟩ := Kd.bS HO178.out; subst eo33; have := cf6_ BK157.out))
    have n0_ : aC (Kd.R (Kd.int .i64) 2 (w32.setCell ⟨gb157, 2, none⟩ (.slice Ao33 y176.length co33)) w.heap.size (fun k_ => oB (.slice Ao27 y170.length co27) k_ ∧ oB (.slice Ao30 y173.length co30) k_ ∧ oB (.slice Ao33 y176.length co33) k_) u158003 x158003_1) := ⟨by (with_reducible repeat (first | apply yA | apply yB | apply yC)); exact zF (yS_ (Kd.bQ HO_158003.out BK157.out (by decide))) (fun _ hk => ⟨hk.1.1.1, ⟨hk.1.1.2, hk.1.2⟩⟩)⟩
    have n1_ : aC (Kd.R (Kd.int .i64) 2 (w32.setCell ⟨gb157, 2, none⟩ (.slice Ao33 y176.length co33)) w.heap.size (fun k_ => oB u158003 k_ ∧ oB (.slice Ao30 y173.length co30) k_ ∧ oB (.slice Ao33 y176.length co33) k_) (.slice Ao27 y170.length co27) y170) := ⟨by (with_reducible repeat (first | apply yA | apply yB | apply yC)); exact zF (yS_ (Kd.bQ HO172.out BK157.out (by decide))) (fun _ hk => ⟨hk.1.1.1, ⟨hk.1.1.2, hk.1.2⟩⟩)⟩
    have n2_ : aC (Kd.R (Kd.int .i64) 2 (w32.setCell ⟨gb157, 2, none⟩ (.slice Ao33 y176.length co33)) w.heap.size (fun k_ => oB u158003 k_ ∧ oB (.slice Ao27 y170.length co27) k_ ∧ oB (.slice Ao33 y176.length co33) k_) (.slice Ao30 y173.length co30) y173) := ⟨by (with_reducible repeat (first | apply yA | apply yB | apply yC)); exact zF (yS_ (Kd.bQ HO175.out BK157.out (by decide))) (fun _ hk => ⟨hk.1.1.1, ⟨hk.1.1.2, hk.1.2⟩⟩)⟩
    have n3_ : aC (Kd.R (Kd.int .i64) 2 (w32.setCell ⟨gb157, 2, none⟩ (.slice Ao33 y176.length co33)) w.heap.size (fun k_ => oB u158003 k_ ∧ oB (.slice Ao27 y170.length co27) k_ ∧ oB (.slice Ao30 y173.length co30) k_) (.slice Ao33 y176.length co33) y176) := ⟨by (with_reducible repeat (first | apply yA | apply yB | apply yC)); exact zF (yS_ (Kd.bQ HO178.out BK157.out (by decide))) (fun _ hk => ⟨hk.1.1, ⟨hk.1.2.1, hk.1.2.2⟩⟩)⟩
    have n4_ : aC ((w32.setCell ⟨gb157, 2, none⟩ (.slice Ao33 y176.length co33)).heap[gb156]? = some (.cells #[.int .i64 0, .slice none 0 0, .slice none 0 0, .slice none 0 0, .slice none 0 0, .slice none 0 0] 26 (0, 0))) := ⟨by (with_reducible repeat (first | refine yM ?_ _ | refine yO ?_ | refine yN ?_ _)); refine blk_far ?_ NB156_157.out _; (with_reducible repeat (first | refine yM ?_ _ | refine yO ?_ | refine yN ?_ _)); exact BK156.out⟩
    have n5_ : aC ((w32.setCell ⟨gb157, 2, none⟩ (.slice Ao33 y176.length co33)).heap[gb157]? = some (.cells #[.int .i64 3, .slice Ao27 y170.length co27, .slice Ao33 y176.length co33, u158003, .slice Ao30 y173.length co30, .slice none 0 0] 26 (0, 0))) := ⟨by (with_reducible repeat (first | refine yM ?_ _ | refine yO ?_ | refine yN ?_ _)); refine blk_put (cs := #[.int .i64 3, .slice Ao27 y170.length co27, u158002, u158003, .slice Ao30 y173.length co30, .slice none 0 0]) ?_ 2 _ rfl; (with_reducible repeat (first | refine yM ?_ _ | refine yO ?_ | refine yN ?_ _)); exact BK157.out⟩
    have n6_ : aC (bB w0 (w32.setCell ⟨gb157, 2, none⟩ (.slice Ao33 y176.length co33)) g s0_0 t168 t169) := ⟨kR5 HI0⟩
    have n7_ : aC (aU w (w32.setCell ⟨gb157, 2, none⟩ (.slice Ao33 y176.length co33)) g none) := ⟨kR6 HK⟩
    have n8_ : aC (Below w0.heap.size w0 (w32.setCell ⟨gb157, 2, none⟩ (.slice Ao33 y176.length co33))) := ⟨kR7 HB⟩
    generalize (w32.setCell ⟨gb157, 2, none⟩ (.slice Ao33 y176.length co33)) = w35 at n0_ n1_ n2_ n3_ n4_ n5_ n6_ n7_ n8_ ⊢
    have HO_158003 := n0_; have HO172 := n1_; have HO175 := n2_; have HO178 := n3_; have BK156 := n4_; have BK157 := n5_; have HI0 := n6_; have HK := n7_; have HB := n8_; clear n0_ n1_ n2_ n3_ n4_ n5_ n6_ n7_ n8_
    replace HO_158003 := yD (yC HO_158003.out); replace HO172 := yD (yC HO172.out); replace HO175 := yD (yC HO175.out); replace HO178 := yD (yC HO178.out); replace BK156 := yD (yO BK156.out); replace BK157 := yD (yO BK157.out); replace HI0 := yD (bB.drew HI0.out); replace HK := yD (keep_drew HK.out); replace HB := yD (yP HB.out)
    refine start_ (n := 10) (S := fun w' => w'.cell? ⟨gb157, 0, none⟩ = some (.int .i64 3) ∧ w'.cell? ⟨gb157, 1, none⟩ = some (.slice Ao27 y170.length co27) ∧ w'.cell? ⟨gb157, 2, none⟩ = some (.slice Ao33 y176.length co33) ∧ w'.cell? ⟨gb157, 3, none⟩ = some (u158003) ∧ w'.cell? ⟨gb157, 4, none⟩ = some (.slice Ao30 y173.length co30) ∧ w'.cell? ⟨gb157, 5, none⟩ = some (.slice none 0 0)) (ds := [9]) (bz 10 0) (by kernel_rfl) rfl rfl (cz6 BK157.out) (fun hHeld => ?_); refine with_tabW cC.tab13 cC.bits13 (fun HT_ HW_ => ?_)
    generalize w35.drew = w36 at HO_158003 HO172 HO175 HO178 BK156 BK157 HI0 HK HB hHeld ⊢
    refine qa 10 0 1 ?_; refine qa 10 2 5 ?_; refine qa 10 3 13 ?_; refine qc 10 1 15 hHeld ?_
    refine qo 10 4 31 (some 68) fun K hK => ?_
    refine qg Try.func41 _ (dw (bL.calls g s0_0 t168 t169 (wrap64 ((wrap64 (Int.tdiv (wrap64 ((wrap64 ((rd l1 x6_1) - t159)) - (wrap64 (1 + t164)))) (wrap64 ((wrap64 (1 + t164)) + t167)))) + 1)) t179 t180 t181 w0 _ ?z1 ?z2 A18.out) fun w37 hi hb hk => ?_)
    (case z1 => exact kR5 HI0)
    (case z2 => exact kR7 HB)
    replace HO_158003 := yD (zF (Kd.R_keep (bB.apart (show bB w0 _ g s0_0 t168 t169 from kR5 HI0) (kA HO_158003) (by decide)) hk (fun _ h => h.2)) (fun _ h => h.1)); replace BK156 := yD (aU.blk hk (g' := gb156) (o := .cells #[.int .i64 0, .slice none 0 0, .slice none 0 0, .slice none 0 0, .slice none 0 0, .slice none 0 0] 26 (0, 0)) (kM BK156) NB156_0.out (by simp)); replace BK157 := yD (aU.blk hk (g' := gb157) (o := .cells #[.int .i64 3, .slice Ao27 y170.length co27, .slice Ao33 y176.length co33, u158003, .slice Ao30 y173.length co30, .slice none 0 0] 26 (0, 0)) (kM BK157) NB157_0.out (by simp)); replace HO172 := yD (zF (Kd.R_keep (bB.apart (show bB w0 _ g s0_0 t168 t169 from kR5 HI0) (kA HO172) (by decide)) hk (fun _ h => h.2)) (fun _ h => h.1)); replace HO175 := yD (zF (Kd.R_keep (bB.apart (show bB w0 _ g s0_0 t168 t169 from kR5 HI0) (kA HO175) (by decide)) hk (fun _ h => h.2)) (fun _ h => h.1)); replace HO178 := yD (zF (Kd.R_keep (bB.apart (show bB w0 _ g s0_0 t168 t169 from kR5 HI0) (kA HO178) (by decide)) hk (fun _ h => h.2)) (fun _ h => h.1)); replace HK := yD (aU.trans (kR6 HK) hk (.inl rfl)); replace HB := yD (hb); replace HI0 := yD (hi)
    refine hK.out _ _ (cz6 BK157.out) (fun hHeld => ?_)
    clear hK K
    refine nZ 68 ?_
    refine qa 10 5 63 ?_
    refine qo 10 6 127 (some 70) fun K hK => ?_
    refine value_ (w1 := ?_) (v := ?_) (by rfl) rfl ?_ ?_
    rotate_left 2
    · go_simp
      constructor
      · rfl
      · rfl
    refine hK.out _ _ (cz6 (yN BK157.out _)) (fun hHeld => ?_)
    clear hK K
    refine nZ 70 ?_
    refine qo 10 7 255 (some 71) fun K hK => ?_
    refine Kd.R_append_step (Kd.int .i64) w.heap.size (by rfl) (.tmp 65) (.tmp 70) 23 2 (.int .i64 0) 8 rfl Try.underlying23 info2 rfl (by decide) (by omega) u158003 x158003_1 (wrap64 (1 + t179)) [.int .i64 (wrap64 (1 + t179))] (fun k_ => oB (.slice Ao27 y170.length co27) k_ ∧ oB (.slice Ao30 y173.length co30) k_ ∧ oB (.slice Ao33 y176.length co33) k_) (fun _ => False) rfl rfl ?aP (fun _ hk => hk.elim) ?aF ?aO (Below.refl _ _) ?aS ?aL ?_
    (case aP => exact rfl)
    (case aF => exact (fun k_ hk => ⟨Kd.cQ (yK (kA HO172)) k_ hk, Kd.cQ (yK (kA HO175)) k_ hk, Kd.cQ (yK (kA HO178)) k_ hk⟩))
    (case aO => exact (kA HO_158003))
    (case aS => exact (keep_size (w := w) (g := g) (row := none) (kR6 HK)))
    (case aL => have := LMc19.out; omega)
    intro v183 w38 ho hb hg hat
    rw [← Ny182.out] at ho
    have n0_ := yD (blk_grown (g := gb156) (o := .cells #[.int .i64 0, .slice none 0 0, .slice none 0 0, .slice none 0 0, .slice none 0 0, .slice none 0 0] 26 (0, 0)) (kM BK156) hg (Kd.R_ne HO_158003.out BK156.out (by decide)))
    have n1_ := yD (blk_grown (g := gb157) (o := .cells #[.int .i64 3, .slice Ao27 y170.length co27, .slice Ao33 y176.length co33, u158003, .slice Ao30 y173.length co30, .slice none 0 0] 26 (0, 0)) (kM BK157) hg (Kd.R_ne HO_158003.out BK157.out (by decide)))
    have n2_ := yD (bB.grown (kR5 HI0) hg (bB.own_ne HI0.out HO_158003.out (by decide)))
    have n3_ := yD (Kd.R_after (ok := (fun k_ => oB (.slice Ao30 y173.length co30) k_ ∧ oB (.slice Ao33 y176.length co33) k_)) (mR HO172 (fun _ hk => ⟨⟨hk.2.1, hk.2.2⟩, hk.1⟩)) hg hat)
    have n4_ := yD (Kd.R_after (ok := (fun k_ => oB (.slice Ao27 y170.length co27) k_ ∧ oB (.slice Ao33 y176.length co33) k_)) (mR HO175 (fun _ hk => ⟨⟨hk.2.1, hk.2.2⟩, hk.1⟩)) hg hat)
    have n5_ := yD (Kd.R_after (ok := (fun k_ => oB (.slice Ao27 y170.length co27) k_ ∧ oB (.slice Ao30 y173.length co30) k_)) (mR HO178 (fun _ hk => ⟨⟨hk.2.1, hk.2.2⟩, hk.1⟩)) hg hat)
    have n6_ := yD (below_weaken (kR7 HB) HL.out hb)
    have n7_ := yD (aU.trans (kR6 HK) (aU.of_grown hg g) (Kd.R_base2 HO_158003.out))
    have n8_ := yD (ho)
    clear BK156 BK157 HI0 HO172 HO175 HO178 HB HK HO_158003; have BK156 := n0_; have BK157 := n1_; have HI0 := n2_; have HO172 := n3_; have HO175 := n4_; have HO178 := n5_; have HB := n6_; have HK := n7_; have HO184 := n8_; clear n0_ n1_ n2_ n3_ n4_ n5_ n6_ n7_ n8_ ho hb hg hat
    obtain ⟨Ao39, co39, eo39⟩ := Kd.bS HO184.out
    (first | subst eo39 | (injection eo39 with f1_ f2_ f3_; have f4_ := f1_.symm; have f5_ := f3_.symm; clear f1_ f2_ f3_; subst f4_; subst f5_))
    refine hK.out _ _ (cz6 BK157.out) (fun hHeld => ?_)
    clear hK K
    refine nZ 71 ?_
    refine qa 10 8 511 ?_
    refine last_ (i := 9) (N := none) #[true, true, true, true, true, true, true, true, true, true] rfl rfl (one_of HT_.out (by kernel_rfl)) (by decide) (fun K hK => ?_)
    have hs40 : w38.cell? ⟨gb157, 3, none⟩ = some (u158003) := (yG BK157.out 3).trans rfl
    have hfs40 := yR BK157.out 3
    have hns40_0 := NB156_157.out; have hms40_0 := NB157_156.out
    refine skip_ (w1 := ?_) (by rfl) rfl ?_ ?_
    rotate_left
    · go_simp
      rfl
    refine hK.out _ _ ?_
    clear hK K
    refine qd ?_
    try go_wp2
    go_roundg k1
    case measure => have := HK1.out; omega
    case rel => exact ⟨(wrap64 (x6_1 + 1)), (t180), (t181), (y170), (y176), (y182), (y173), (.slice Ao27 y170.length co27), (.slice Ao33 y176.length co33), (.slice Ao39 y182.length co39), (.slice Ao30 y173.length co30), kF, H', ⟨by have := HK1.out; omega⟩, ⟨by (with_reducible repeat (first | apply yA | apply yB | apply yC)); exact zF (yS_ (Kd.bQ HO172.out BK157.out (by decide))) (fun _ hk => ⟨hk.1.1.2, ⟨hk.1.2, hk.1.1.1⟩⟩)⟩, ⟨by (with_reducible repeat (first | apply yA | apply yB | apply yC)); exact zF (yS_ (Kd.bQ HO178.out BK157.out (by decide))) (fun _ hk => ⟨hk.1.1.1, ⟨hk.1.2, hk.1.1.2⟩⟩)⟩, ⟨by (with_reducible repeat (first | apply yA | apply yB | apply yC)); exact zF (yS_ (Kd.bQ HO184.out BK157.out (by decide))) (fun _ hk => ⟨hk.1.1, ⟨hk.1.2.2, hk.1.2.1⟩⟩)⟩, ⟨by (with_reducible repeat (first | apply yA | apply yB | apply yC)); exact zF (yS_ (Kd.bQ HO175.out BK157.out (by decide))) (fun _ hk => ⟨hk.1.1.1, ⟨hk.1.1.2, hk.1.2⟩⟩)⟩, ⟨by (with_reducible repeat (first | refine yM ?_ _ | refine yO ?_ | refine yN ?_ _)); refine blk_far ?_ NB156_157.out _; (with_reducible repeat (first | refine yM ?_ _ | refine yO ?_ | refine yN ?_ _)); exact BK156.out⟩, ⟨by (with_reducible repeat (first | refine yM ?_ _ | refine yO ?_ | refine yN ?_ _)); refine blk_put (cs := #[.int .i64 3, .slice Ao27 y170.length co27, .slice Ao33 y176.length co33, u158003, .slice Ao30 y173.length co30, .slice none 0 0]) ?_ 3 _ rfl; (with_reducible repeat (first | refine yM ?_ _ | refine yO ?_ | refine yN ?_ _)); exact BK157.out⟩, ⟨kR5 HI0⟩, ⟨kR6 HK⟩, ⟨kR7 HB⟩⟩
mutual
def bY.j0 : Nat → List Int → Bool → List Int → Int → Int → Option (Int × List Int × List Int × List Int × List Int × (List (S68)) × Int × Int)
 | 0, _, _, _, _, _ => none
 | k + 1, x1, x24, x1000, x1001, x1002 => if x24 = true then ((bL.f x1000 x1001 x1002 6).bind fun bt194 => (bY.l0 k x1 bt194.1 x1000 bt194.2.1 bt194.2.2 4 ([] : List (S68)))) else ((cC.f k x1000 x1001 x1002 x1).bind fun bt210 => (some (bt210.1, bt210.2.1, bt210.2.2.1, bt210.2.2.2.1, bt210.2.2.2.2.1, bt210.2.2.2.2.2.1, bt210.2.2.2.2.2.2.1, bt210.2.2.2.2.2.2.2)))
def bY.l0 : Nat → List Int → Int → List Int → Int → Int → Int → List (S68) → Option (Int × List Int × List Int × List Int × List Int × (List (S68)) × Int × Int)
 | 0, _, _, _, _, _, _, _ => none
 | k + 1, x1, x6, x1000, x1001, x1002, x194000, x194005 => if x6 ≥ 0 then (bY.l1 k x1 x6 (([] : List Int)) 0 x1000 x1001 x1002 x194000 x194005) else (some (x194000, ([] : List Int), ([] : List Int), ([] : List Int), ([] : List Int), x194005, x1001, x1002))
def bY.l1 : Nat → List Int → Int → List Int → Int → List Int → Int → Int → Int → List (S68) → Option (Int × List Int × List Int × List Int × List Int × (List (S68)) × Int × Int)
 | 0, _, _, _, _, _, _, _, _, _ => none
 | k + 1, x1, x6, x7, x8, x1000, x1001, x1002, x194000, x194005 => if x8 < (x1.length : Int) then (if 0 ≤ x8 then ((bL.f x1000 x1001 x1002 (rd x1 x8)).bind fun bt201 => (if x7.length < 17592186044416 then (bY.l1 k x1 x6 (x7 ++ [bt201.1]) (wrap64 (x8 + 1)) x1000 bt201.2.1 bt201.2.2 x194000 x194005) else (none))) else (none)) else (if x194005.length < 5864062014805 then (bY.l0 k x1 (wrap64 (x6 - 1)) x1000 x1001 x1002 x194000 (x194005 ++ [(⟨x7⟩ : S68)])) else (none))
end
def bY.f (k : Nat) (s0_0 : List Int) (s0_1 s0_2 : Int) (l1 : List Int) : Option (Int × List Int × List Int × List Int × List Int × (List (S68)) × Int × Int) := (cE.f k l1).bind fun t186 => (if t186 = 0 then ((bL.f s0_0 s0_1 s0_2 2).bind fun bt187 => (some (wrap64 (1 + bt187.1), ([] : List Int), ([] : List Int), ([] : List Int), ([] : List Int), ([] : List (S68)), bt187.2.1, bt187.2.2))) else ((bL.f s0_0 s0_1 s0_2 8).bind fun bt190 => (if bt190.1 = 0 then (some (1, ([] : List Int), ([] : List Int), ([] : List Int), ([] : List Int), ([] : List (S68)), bt190.2.1, bt190.2.2)) else (if bt190.1 = 1 then (some (2, ([] : List Int), ([] : List Int), ([] : List Int), ([] : List Int), ([] : List (S68)), bt190.2.1, bt190.2.2)) else (if bt190.1 = 2 then (bY.j0 k l1 (bt190.1 == 2) s0_0 bt190.2.1 bt190.2.2) else (bY.j0 k l1 (bt190.1 == 3) s0_0 bt190.2.1 bt190.2.2))))))
theorem bY.calls (k : Nat) (g : Nat) (s0_0 : List Int) (s0_1 : Int) (s0_2 : Int) (A1 : Option Addr) (c1 : Nat) (l1 : List Int) (r1 : Int) (r2 : List Int) (r3 : List Int) (r4 : List Int) (r5 : List Int) (r6 : List (S68)) (r7 : Int) (r8 : Int) (w0 w : World) (hI : bB w0 w g s0_0 s0_1 s0_2) (hB : Below w0.heap.size w0 w) (C1 : Cm (Kd.int .i64) w A1 c1 l1) (hf1 : ∀ ad, A1 = some ad → 0 < l1.length → ad.block ≠ g) (h : bY.f k s0_0 s0_1 s0_2 l1 = some (r1, r2, r3, r4, r5, r6, r7, r8)) :
 Calls Try.prog 16 #[.pointer (some ⟨g, 0, none⟩), .slice A1 l1.length c1] w fun e w' => ∃ v1_ v2_ v3_ v4_ v5_ : Value, e = .returned (.agg #[.int .i64 r1, v1_, v2_, v3_, v4_, v5_]) ∧ Kd.R (Kd.int .i64) 2 w' w.heap.size (fun k_ => some k_ ≠ (v2_ : Value).ownBlock ∧ some k_ ≠ (v3_ : Value).ownBlock ∧ some k_ ≠ (v4_ : Value).ownBlock) v1_ r2 ∧ Kd.R (Kd.int .i64) 2 w' w.heap.size (fun k_ => some k_ ≠ (v1_ : Value).ownBlock ∧ some k_ ≠ (v3_ : Value).ownBlock ∧ some k_ ≠ (v4_ : Value).ownBlock) v2_ r3 ∧ Kd.R (Kd.int .i64) 2 w' w.heap.size (fun k_ => some k_ ≠ (v1_ : Value).ownBlock ∧ some k_ ≠ (v2_ : Value).ownBlock ∧ some k_ ≠ (v4_ : Value).ownBlock) v3_ r4 ∧ Kd.R (Kd.int .i64) 2 w' w.heap.size (fun k_ => some k_ ≠ (v1_ : Value).ownBlock ∧ some k_ ≠ (v2_ : Value).ownBlock ∧ some k_ ≠ (v3_ : Value).ownBlock) v4_ r5 ∧ Kd.S k68 68 w' w.heap.size (fun k_ => some k_ ≠ (v1_ : Value).ownBlock ∧ some k_ ≠ (v2_ : Value).ownBlock ∧ some k_ ≠ (v3_ : Value).ownBlock ∧ some k_ ≠ (v4_ : Value).ownBlock) v5_ r6 ∧ bB w0 w' g s0_0 r7 r8 ∧ Below w0.heap.size w0 w' ∧ aU w w' g none := by
 have hu26 := Try.underlying26; have hu68 := Try.underlying68
 have HI0 := yD hI
 have HK := yD (aU.refl w g none)
 have HL := yD hB.size
 clear hI
 have HW0 := yD hB.size
 have HB := yD hB
 clear hB
 have H : ((cE.f k l1).bind fun t186 => (if t186 = 0 then ((bL.f s0_0 s0_1 s0_2 2).bind fun bt187 => (some (wrap64 (1 + bt187.1), ([] : List Int), ([] : List Int), ([] : List Int), ([] : List Int), ([] : List (S68)), bt187.2.1, bt187.2.2))) else ((bL.f s0_0 s0_1 s0_2 8).bind fun bt190 => (if bt190.1 = 0 then (some (1, ([] : List Int), ([] : List Int), ([] : List Int), ([] : List Int), ([] : List (S68)), bt190.2.1, bt190.2.2)) else (if bt190.1 = 1 then (some (2, ([] : List Int), ([] : List Int), ([] : List Int), ([] : List Int), ([] : List (S68)), bt190.2.1, bt190.2.2)) else (if bt190.1 = 2 then (bY.j0 k l1 (bt190.1 == 2) s0_0 bt190.2.1 bt190.2.2) else (bY.j0 k l1 (bt190.1 == 3) s0_0 bt190.2.1 bt190.2.2))))))) = some (r1, r2, r3, r4, r5, r6, r7, r8) := h
 clear h
 replace ⟨t186, A3, H⟩ := sV H
 replace H := sQ H; rcases H with ⟨-, c4b0, c4b1, H⟩ | ⟨c4, c4b0, c4b1, H⟩
 ·
  replace ⟨⟨t187, t188, t189⟩, A5, H⟩ := sV H
  simp only [Option.some.injEq, Prod.mk.injEq] at H
  obtain ⟨rfl, rfl, rfl, rfl, rfl, rfl, rfl, rfl⟩ := H
  go_enter Try.func16, Try.ntmps16
  go_wp2_with (first | (refine gD 4 ?_; refine bE (N := 4) (cs := #[.int .i64 0, .slice none 0 0, .slice none 0 0, .slice none 0 0, .slice none 0 0, .slice none 0 0]) (t := 26) ?_; intro gb185 hg w6 hbox hb; replace HB := yD (zC (kR3 HB) hb); have BK185 := yD (hbox); have GW185 := yD ((by rw [hg]; exact (keep_size (w := w) (g := g) (row := none) (kR4 HK)) : w.heap.size ≤ gb185)); have GW185 := yD ((Nat.le_trans HW0.out (by rw [hg]; exact (keep_size (w := w) (g := g) (row := none) (kR4 HK)) : w.heap.size ≤ gb185) : w0.heap.size ≤ gb185)); replace HK := yD (aU.trans (kR4 HK) (aU.of_below hb g none) (.inl rfl)); have NB0_185 := yD ((by rw [hg]; exact Nat.ne_of_lt (bB.lt (show bB w0 _ g s0_0 s0_1 s0_2 from kR2 HI0)) : g ≠ gb185)); have NB185_0 := yD ((by rw [hg]; exact Nat.ne_of_gt (bB.lt (show bB w0 _ g s0_0 s0_1 s0_2 from kR2 HI0)) : gb185 ≠ g)); replace HI0 := yD (bB.below (kR2 HI0) hb); clear hb hbox hg) | (refine gC 28 ?_; refine gL 10 Try.func28 _ ((cE.calls k _ _ l1 t186 _ ?z1 A3.out).mono ?_); (case z1 => exact ⟨Kd.C_keep 0 C1.r (kR6 HK) hf1, C1.h⟩); rintro e w' ⟨rfl, ⟨nd, rfl⟩⟩; refine ⟨_, rfl, ?_⟩; (try (rw [drewN_self w6]; generalize hq_ : World.drewN w6 _ = w6; replace BK185 := yD (blk_at hq_ BK185.out); replace HI0 := yD (bB.at_ hq_ HI0.out); replace HK := yD (keep_at hq_ HK.out); replace HB := yD (below_at hq_ HB.out); clear hq_))) | (refine gC 41 ?_; refine gL 13 Try.func41 _ (dw (bL.calls g s0_0 s0_1 s0_2 2 t187 t188 t189 w0 _ ?z1 ?z2 A5.out) fun w7 hi hb hk => ?_); (case z1 => exact kR5 HI0); (case z2 => exact kR7 HB); replace BK185 := yD (aU.blk hk (g' := gb185) (o := .cells #[.int .i64 0, .slice none 0 0, .slice none 0 0, .slice none 0 0, .slice none 0 0, .slice none 0 0] 26 (0, 0)) (kM BK185) NB185_0.out (by simp)); replace HK := yD (aU.trans (kR6 HK) hk (.inl rfl)); replace HB := yD (hb); replace HI0 := yD (hi); clear hb hk hi; have hnb8 := NB185_0.out; have hnc8 := NB0_185.out; have := cf6_ BK185.out))
  refine bodyPost_ret (results_cell_row rfl _ _ gb185 26 #[.int .i64 (wrap64 (1 + t187)), .slice none 0 0, .slice none 0 0, .slice none 0 0, .slice none 0 0, .slice none 0 0] (0, 0) _ rfl (by (with_reducible repeat (first | refine yM ?_ _ | refine yO ?_ | refine yN ?_ _)); exact bA6_ BK185.out) Try.underlying26 rfl (by kernel_rfl)) rfl ?_
  exact ⟨_, _, _, _, _, kE, by first | exact Kd.R_nil _ _ _ _ _ | exact Kd.N_nil _ _ _ _ _ | exact Kd.V_nil _ _ _ _ _ | exact Kd.Q_nil _ _ _ _ _ | exact Kd.S_nil _ _ _ _ _, by first | exact Kd.R_nil _ _ _ _ _ | exact Kd.N_nil _ _ _ _ _ | exact Kd.V_nil _ _ _ _ _ | exact Kd.Q_nil _ _ _ _ _ | exact Kd.S_nil _ _ _ _ _, by first | exact Kd.R_nil _ _ _ _ _ | exact Kd.N_nil _ _ _ _ _ | exact Kd.V_nil _ _ _ _ _ | exact Kd.Q_nil _ _ _ _ _ | exact Kd.S_nil _ _ _ _ _, by first | exact Kd.R_nil _ _ _ _ _ | exact Kd.N_nil _ _ _ _ _ | exact Kd.V_nil _ _ _ _ _ | exact Kd.Q_nil _ _ _ _ _ | exact Kd.S_nil _ _ _ _ _, by first | exact Kd.S_nil _ _ _ _ _ | exact Kd.N_nil _ _ _ _ _ | exact Kd.V_nil _ _ _ _ _ | exact Kd.Q_nil _ _ _ _ _ | exact Kd.R_nil _ _ _ _ _, kR5 HI0, kR7 HB, kR6 HK⟩
 replace ⟨⟨t190, t191, t192⟩, A10, H⟩ := sV H
 replace H := sQ H; rcases H with ⟨-, c11b0, c11b1, H⟩ | ⟨c11, c11b0, c11b1, H⟩
 ·
  simp only [Option.some.injEq, Prod.mk.injEq] at H
  obtain ⟨rfl, rfl, rfl, rfl, rfl, rfl, rfl, rfl⟩ := H
  go_enter Try.func16, Try.ntmps16
  go_wp2_with (first | (refine gD 4 ?_; refine bE (N := 4) (cs := #[.int .i64 0, .slice none 0 0, .slice none 0 0, .slice none 0 0, .slice none 0 0, .slice none 0 0]) (t := 26) ?_; intro gb185 hg w12 hbox hb; replace HB := yD (zC (kR3 HB) hb); have BK185 := yD (hbox); have GW185 := yD ((by rw [hg]; exact (keep_size (w := w) (g := g) (row := none) (kR4 HK)) : w.heap.size ≤ gb185)); have GW185 := yD ((Nat.le_trans HW0.out (by rw [hg]; exact (keep_size (w := w) (g := g) (row := none) (kR4 HK)) : w.heap.size ≤ gb185) : w0.heap.size ≤ gb185)); replace HK := yD (aU.trans (kR4 HK) (aU.of_below hb g none) (.inl rfl)); have NB0_185 := yD ((by rw [hg]; exact Nat.ne_of_lt (bB.lt (show bB w0 _ g s0_0 s0_1 s0_2 from kR2 HI0)) : g ≠ gb185)); have NB185_0 := yD ((by rw [hg]; exact Nat.ne_of_gt (bB.lt (show bB w0 _ g s0_0 s0_1 s0_2 from kR2 HI0)) : gb185 ≠ g)); replace HI0 := yD (bB.below (kR2 HI0) hb); clear hb hbox hg) | (refine gC 28 ?_; refine gL 10 Try.func28 _ ((cE.calls k _ _ l1 t186 _ ?z1 A3.out).mono ?_); (case z1 => exact ⟨Kd.C_keep 0 C1.r (kR6 HK) hf1, C1.h⟩); rintro e w' ⟨rfl, ⟨nd, rfl⟩⟩; refine ⟨_, rfl, ?_⟩; (try (rw [drewN_self w12]; generalize hq_ : World.drewN w12 _ = w12; replace BK185 := yD (blk_at hq_ BK185.out); replace HI0 := yD (bB.at_ hq_ HI0.out); replace HK := yD (keep_at hq_ HK.out); replace HB := yD (below_at hq_ HB.out); clear hq_))) | (refine gC 41 ?_; refine gL 17 Try.func41 _ (dw (bL.calls g s0_0 s0_1 s0_2 8 t190 t191 t192 w0 _ ?z1 ?z2 A10.out) fun w13 hi hb hk => ?_); (case z1 => exact kR5 HI0); (case z2 => exact kR7 HB); replace BK185 := yD (aU.blk hk (g' := gb185) (o := .cells #[.int .i64 0, .slice none 0 0, .slice none 0 0, .slice none 0 0, .slice none 0 0, .slice none 0 0] 26 (0, 0)) (kM BK185) NB185_0.out (by simp)); replace HK := yD (aU.trans (kR6 HK) hk (.inl rfl)); replace HB := yD (hb); replace HI0 := yD (hi); clear hb hk hi; have hnb14 := NB185_0.out; have hnc14 := NB0_185.out; have := cf6_ BK185.out))
  refine bodyPost_ret (results_cell_row rfl _ _ gb185 26 #[.int .i64 1, .slice none 0 0, .slice none 0 0, .slice none 0 0, .slice none 0 0, .slice none 0 0] (0, 0) _ rfl (by (with_reducible repeat (first | refine yM ?_ _ | refine yO ?_ | refine yN ?_ _)); exact bA6_ BK185.out) Try.underlying26 rfl (by kernel_rfl)) rfl ?_
  exact ⟨_, _, _, _, _, kE, by first | exact Kd.R_nil _ _ _ _ _ | exact Kd.N_nil _ _ _ _ _ | exact Kd.V_nil _ _ _ _ _ | exact Kd.Q_nil _ _ _ _ _ | exact Kd.S_nil _ _ _ _ _, by first | exact Kd.R_nil _ _ _ _ _ | exact Kd.N_nil _ _ _ _ _ | exact Kd.V_nil _ _ _ _ _ | exact Kd.Q_nil _ _ _ _ _ | exact Kd.S_nil _ _ _ _ _, by first | exact Kd.R_nil _ _ _ _ _ | exact Kd.N_nil _ _ _ _ _ | exact Kd.V_nil _ _ _ _ _ | exact Kd.Q_nil _ _ _ _ _ | exact Kd.S_nil _ _ _ _ _, by first | exact Kd.R_nil _ _ _ _ _ | exact Kd.N_nil _ _ _ _ _ | exact Kd.V_nil _ _ _ _ _ | exact Kd.Q_nil _ _ _ _ _ | exact Kd.S_nil _ _ _ _ _, by first | exact Kd.S_nil _ _ _ _ _ | exact Kd.N_nil _ _ _ _ _ | exact Kd.V_nil _ _ _ _ _ | exact Kd.Q_nil _ _ _ _ _ | exact Kd.R_nil _ _ _ _ _, kR5 HI0, kR7 HB, kR6 HK⟩
 replace H := sQ H; rcases H with ⟨-, c16b0, c16b1, H⟩ | ⟨c16, c16b0, c16b1, H⟩
 ·
  simp only [Option.some.injEq, Prod.mk.injEq] at H
  obtain ⟨rfl, rfl, rfl, rfl, rfl, rfl, rfl, rfl⟩ := H
  go_enter Try.func16, Try.ntmps16
  go_wp2_with (first | (refine gD 4 ?_; refine bE (N := 4) (cs := #[.int .i64 0, .slice none 0 0, .slice none 0 0, .slice none 0 0, .slice none 0 0, .slice none 0 0]) (t := 26) ?_; intro gb185 hg w17 hbox hb; replace HB := yD (zC (kR3 HB) hb); have BK185 := yD (hbox); have GW185 := yD ((by rw [hg]; exact (keep_size (w := w) (g := g) (row := none) (kR4 HK)) : w.heap.size ≤ gb185)); have GW185 := yD ((Nat.le_trans HW0.out (by rw [hg]; exact (keep_size (w := w) (g := g) (row := none) (kR4 HK)) : w.heap.size ≤ gb185) : w0.heap.size ≤ gb185)); replace HK := yD (aU.trans (kR4 HK) (aU.of_below hb g none) (.inl rfl)); have NB0_185 := yD ((by rw [hg]; exact Nat.ne_of_lt (bB.lt (show bB w0 _ g s0_0 s0_1 s0_2 from kR2 HI0)) : g ≠ gb185)); have NB185_0 := yD ((by rw [hg]; exact Nat.ne_of_gt (bB.lt (show bB w0 _ g s0_0 s0_1 s0_2 from kR2 HI0)) : gb185 ≠ g)); replace HI0 := yD (bB.below (kR2 HI0) hb); clear hb hbox hg) | (refine gC 28 ?_; refine gL 10 Try.func28 _ ((cE.calls k _ _ l1 t186 _ ?z1 A3.out).mono ?_); (case z1 => exact ⟨Kd.C_keep 0 C1.r (kR6 HK) hf1, C1.h⟩); rintro e w' ⟨rfl, ⟨nd, rfl⟩⟩; refine ⟨_, rfl, ?_⟩; (try (rw [drewN_self w17]; generalize hq_ : World.drewN w17 _ = w17; replace BK185 := yD (blk_at hq_ BK185.out); replace HI0 := yD (bB.at_ hq_ HI0.out); replace HK := yD (keep_at hq_ HK.out); replace HB := yD (below_at hq_ HB.out); clear hq_))) | (refine gC 41 ?_; refine gL 17 Try.func41 _ (dw (bL.calls g s0_0 s0_1 s0_2 8 t190 t191 t192 w0 _ ?z1 ?z2 A10.out) fun w18 hi hb hk => ?_); (case z1 => exact kR5 HI0); (case z2 => exact kR7 HB); replace BK185 := yD (aU.blk hk (g' := gb185) (o := .cells #[.int .i64 0, .slice none 0 0, .slice none 0 0, .slice none 0 0, .slice none 0 0, .slice none 0 0] 26 (0, 0)) (kM BK185) NB185_0.out (by simp)); replace HK := yD (aU.trans (kR6 HK) hk (.inl rfl)); replace HB := yD (hb); replace HI0 := yD (hi); clear hb hk hi; have hnb19 := NB185_0.out; have hnc19 := NB0_185.out; have := cf6_ BK185.out))
  refine bodyPost_ret (results_cell_row rfl _ _ gb185 26 #[.int .i64 2, .slice none 0 0, .slice none 0 0, .slice none 0 0, .slice none 0 0, .slice none 0 0] (0, 0) _ rfl (by (with_reducible repeat (first | refine yM ?_ _ | refine yO ?_ | refine yN ?_ _)); exact bA6_ BK185.out) Try.underlying26 rfl (by kernel_rfl)) rfl ?_
  exact ⟨_, _, _, _, _, kE, by first | exact Kd.R_nil _ _ _ _ _ | exact Kd.N_nil _ _ _ _ _ | exact Kd.V_nil _ _ _ _ _ | exact Kd.Q_nil _ _ _ _ _ | exact Kd.S_nil _ _ _ _ _, by first | exact Kd.R_nil _ _ _ _ _ | exact Kd.N_nil _ _ _ _ _ | exact Kd.V_nil _ _ _ _ _ | exact Kd.Q_nil _ _ _ _ _ | exact Kd.S_nil _ _ _ _ _, by first | exact Kd.R_nil _ _ _ _ _ | exact Kd.N_nil _ _ _ _ _ | exact Kd.V_nil _ _ _ _ _ | exact Kd.Q_nil _ _ _ _ _ | exact Kd.S_nil _ _ _ _ _, by first | exact Kd.R_nil _ _ _ _ _ | exact Kd.N_nil _ _ _ _ _ | exact Kd.V_nil _ _ _ _ _ | exact Kd.Q_nil _ _ _ _ _ | exact Kd.S_nil _ _ _ _ _, by first | exact Kd.S_nil _ _ _ _ _ | exact Kd.N_nil _ _ _ _ _ | exact Kd.V_nil _ _ _ _ _ | exact Kd.Q_nil _ _ _ _ _ | exact Kd.R_nil _ _ _ _ _, kR5 HI0, kR7 HB, kR6 HK⟩
 have HC21 := yD H
 clear H; go_enter Try.func16, Try.ntmps16
 go_upto_if 24 with (first | (refine gD 4 ?_; refine bE (N := 4) (cs := #[.int .i64 0, .slice none 0 0, .slice none 0 0, .slice none 0 0, .slice none 0 0, .slice none 0 0]) (t := 26) ?_; intro gb185 hg w22 hbox hb; replace HB := yD (zC (kR3 HB) hb); have BK185 := yD (hbox); have GW185 := yD ((by rw [hg]; exact (keep_size (w := w) (g := g) (row := none) (kR4 HK)) : w.heap.size ≤ gb185)); have GW185 := yD ((Nat.le_trans HW0.out (by rw [hg]; exact (keep_size (w := w) (g := g) (row := none) (kR4 HK)) : w.heap.size ≤ gb185) : w0.heap.size ≤ gb185)); replace HK := yD (aU.trans (kR4 HK) (aU.of_below hb g none) (.inl rfl)); have NB0_185 := yD ((by rw [hg]; exact Nat.ne_of_lt (bB.lt (show bB w0 _ g s0_0 s0_1 s0_2 from kR2 HI0)) : g ≠ gb185)); have NB185_0 := yD ((by rw [hg]; exact Nat.ne_of_gt (bB.lt (show bB w0 _ g s0_0 s0_1 s0_2 from kR2 HI0)) : gb185 ≠ g)); replace HI0 := yD (bB.below (kR2 HI0) hb); clear hb hbox hg) | (refine gC 28 ?_; refine gL 10 Try.func28 _ ((cE.calls k _ _ l1 t186 _ ?z1 A3.out).mono ?_); (case z1 => exact ⟨Kd.C_keep 0 C1.r (kR6 HK) hf1, C1.h⟩); rintro e w' ⟨rfl, ⟨nd, rfl⟩⟩; refine ⟨_, rfl, ?_⟩) | (refine gC 41 ?_; refine gL 17 Try.func41 _ (dw (bL.calls g s0_0 s0_1 s0_2 8 t190 t191 t192 w0 _ ?z1 ?z2 A10.out) fun w23 hi hb hk => ?_); (case z1 => exact kR5 HI0); (case z2 => exact kR7 HB); replace BK185 := yD (aU.blk hk (g' := gb185) (o := .cells #[.int .i64 0, .slice none 0 0, .slice none 0 0, .slice none 0 0, .slice none 0 0, .slice none 0 0] 26 (0, 0)) (kM BK185) NB185_0.out (by simp)); replace HK := yD (aU.trans (kR6 HK) hk (.inl rfl)); replace HB := yD (hb); replace HI0 := yD (hi); clear hb hk hi))
 (try simp only [Act.put, zH, zI, zJ])
 go_cut [24] (fun v24 wc => ∃ (kq : Nat) (x24_20 : Bool), v24 = .bool x24_20 ∧ aC (bY.j0 kq l1 x24_20 s0_0 t191 t192 = some (r1, r2, r3, r4, r5, r6, r7, r8)) ∧ aC (kq ≤ k) ∧ aC (wc.heap[gb185]? = some (.cells #[.int .i64 0, (.slice none 0 0), (.slice none 0 0), (.slice none 0 0), (.slice none 0 0), (.slice none 0 0)] 26 (0, 0))) ∧ aC (bB w0 wc g s0_0 t191 t192) ∧ aC (aU w wc g none) ∧ aC (Below w0.heap.size w0 wc))
 case first =>
  have H := HC21.out; clear HC21
  replace H := sP H; rcases H with ⟨c24, c24b0, c24b1, H⟩ | ⟨-, c24b0, c24b1, H⟩
  ·
   (first | rw [c24b0] | (simp only [i64_w, i32_w]; rw [c24b0]) | (simp only [bne] at c24b0; rw [c24b0]) | skip)
   have H' := yD H
   clear H
   go_wp2
   go_meet
   case rel => exact ⟨_, ((t190 == 3)), kF, H', ⟨by first | omega | exact Nat.le_refl _⟩, ⟨kM BK185⟩, ⟨kR5 HI0⟩, ⟨kR6 HK⟩, ⟨kR7 HB⟩⟩
  (first | rw [c24b0] | (simp only [i64_w, i32_w]; rw [c24b0]) | (simp only [bne] at c24b0; rw [c24b0]) | skip)
  have H' := yD H
  clear H
  go_wp2
  go_meet
  case rel => exact ⟨_, ((t190 == 2)), kF, H', ⟨by first | omega | exact Nat.le_refl _⟩, ⟨kM BK185⟩, ⟨kR5 HI0⟩, ⟨kR6 HK⟩, ⟨kR7 HB⟩⟩
 case rest =>
  clear HC21
  obtain ⟨kq, x24_20, rfl, HA, HJ20, BK185, HI0, HK, HB⟩ := hcut
  cases kq with
  | zero => exact absurd HA.out (by simp [bY.j0])
  | succ kj20 =>
   have H := HA.out; clear HA
   simp only [bY.j0] at H
   replace H := sS H; rcases H with ⟨rfl, H⟩ | ⟨rfl, H⟩
   ·
    replace ⟨⟨t210, t211, t214, t217, t220, t223, t226, t227⟩, A55, H⟩ := sV H
    simp only [Option.some.injEq, Prod.mk.injEq] at H
    obtain ⟨rfl, rfl, rfl, rfl, rfl, rfl, rfl, rfl⟩ := H
    go_wp2_with (first | (refine gC 42 ?_; refine gL 60 Try.func42 _ ((cC.calls kj20 g s0_0 t191 t192 _ _ l1 t210 t211 t214 t217 t220 t223 t226 t227 w0 _ ?z1 ?z2 ?z3 ?z5 A55.out).mono ?_); (case z1 => exact kR5 HI0); (case z2 => exact kR7 HB); (case z3 => exact ⟨Kd.C_keep 0 C1.r (kR6 HK) hf1, C1.h⟩); (case z5 => exact hf1); rintro e w56 ⟨v212, v215, v218, v221, v224, rfl, ho0, ho1, ho2, ho3, ho4, hi, hb, hk⟩; refine ⟨_, rfl, ?_⟩; replace BK185 := yD (aU.blk hk (g' := gb185) (o := .cells #[.int .i64 0, .slice none 0 0, .slice none 0 0, .slice none 0 0, .slice none 0 0, .slice none 0 0] 26 (0, 0)) (kM BK185) NB185_0.out (by simp)); have HO213 := yD (yZ ho0 (keep_size (w := w) (g := g) (row := none) (kR6 HK))); have HO216 := yD (yZ ho1 (keep_size (w := w) (g := g) (row := none) (kR6 HK))); have HO219 := yD (yZ ho2 (keep_size (w := w) (g := g) (row := none) (kR6 HK))); have HO222 := yD (yZ ho3 (keep_size (w := w) (g := g) (row := none) (kR6 HK))); have HO225 := yD (zG ho4 (keep_size (w := w) (g := g) (row := none) (kR6 HK))); replace HK := yD (aU.trans (kR6 HK) hk (.inl rfl)); replace HB := yD (hb); replace HI0 := yD (hi); clear hb hk hi ho0 ho1 ho2 ho3 ho4; have hnb57 := NB185_0.out; have hnc57 := NB0_185.out; have := cf6_ BK185.out; obtain ⟨Ao59, co59, eo59⟩ := Kd.bS HO213.out; subst eo59; obtain ⟨Ao60, co60, eo60⟩ := Kd.bS HO216.out; subst eo60; obtain ⟨Ao61, co61, eo61⟩ := Kd.bS HO219.out; subst eo61; obtain ⟨Ao62, co62, eo62⟩ := Kd.bS HO222.out; subst eo62; obtain ⟨Ao63, co63, eo63⟩ := Kd.S_slice HO225.out; subst eo63))
    refine bodyPost_ret (results_cell_row rfl _ _ gb185 26 #[.int .i64 t210, .slice Ao59 t211.length co59, .slice Ao60 t214.length co60, .slice Ao61 t217.length co61, .slice Ao62 t220.length co62, .slice Ao63 t223.length co63] (0, 0) _ rfl (by (with_reducible repeat (first | refine yM ?_ _ | refine yO ?_ | refine yN ?_ _)); exact bA6_ BK185.out) Try.underlying26 rfl (by kernel_rfl)) rfl ?_
    exact ⟨_, _, _, _, _, kE, by (with_reducible repeat (first | apply yA | apply yB | apply yC)); exact zF (yS_ (yS_ (yS_ (yS_ (yS_ (yS_ (Kd.bQ HO213.out BK185.out (by decide)))))))) (fun _ hk => ⟨hk.1.1, ⟨hk.1.2.1, hk.1.2.2⟩⟩), by (with_reducible repeat (first | apply yA | apply yB | apply yC)); exact zF (yS_ (yS_ (yS_ (yS_ (yS_ (yS_ (Kd.bQ HO216.out BK185.out (by decide)))))))) (fun _ hk => ⟨hk.1.1, ⟨hk.1.2.1, hk.1.2.2⟩⟩), by (with_reducible repeat (first | apply yA | apply yB | apply yC)); exact zF (yS_ (yS_ (yS_ (yS_ (yS_ (yS_ (Kd.bQ HO219.out BK185.out (by decide)))))))) (fun _ hk => ⟨hk.1.1, ⟨hk.1.2.1, hk.1.2.2⟩⟩), by (with_reducible repeat (first | apply yA | apply yB | apply yC)); exact zF (yS_ (yS_ (yS_ (yS_ (yS_ (yS_ (Kd.bQ HO222.out BK185.out (by decide)))))))) (fun _ hk => ⟨hk.1.1, ⟨hk.1.2.1, hk.1.2.2⟩⟩), by (with_reducible repeat (first | apply yS | apply yT | apply yU)); exact Kd.S_mono (Kd.S_far (p := ⟨gb185, 5, none⟩) (Kd.S_far (p := ⟨gb185, 4, none⟩) (Kd.S_far (p := ⟨gb185, 3, none⟩) (Kd.S_far (p := ⟨gb185, 2, none⟩) (Kd.S_far (p := ⟨gb185, 1, none⟩) (Kd.S_far (p := ⟨gb185, 0, none⟩) (Kd.S_types HO225.out BK185.out (by decide)) (fun _ hk => hk.2) (.int .i64 t210)) (fun _ hk => hk.2) (.slice Ao59 t211.length co59)) (fun _ hk => hk.2) (.slice Ao60 t214.length co60)) (fun _ hk => hk.2) (.slice Ao61 t217.length co61)) (fun _ hk => hk.2) (.slice Ao62 t220.length co62)) (fun _ hk => hk.2) (.slice Ao63 t223.length co63)) (fun _ hk => ⟨hk.1.1, ⟨hk.1.2.1, ⟨hk.1.2.2.1, hk.1.2.2.2⟩⟩⟩), kR5 HI0, kR7 HB, kR6 HK⟩
   replace ⟨⟨t194, t195, t196⟩, A26, H⟩ := sV H
   have H' := yD H
   clear H
   go_wp2_with (first | (refine gD 5 ?_; refine bE (N := 5) (cs := #[.int .i64 0, .slice none 0 0, .slice none 0 0, .slice none 0 0, .slice none 0 0, .slice none 0 0]) (t := 26) ?_; intro gb193 hg w27 hbox hb; replace HB := yD (zC (kR7 HB) hb); have BK193 := yD (hbox); have GW193 := yD ((by rw [hg]; exact (keep_size (w := w) (g := g) (row := none) (kR6 HK)) : w.heap.size ≤ gb193)); have GW193 := yD ((Nat.le_trans HW0.out (by rw [hg]; exact (keep_size (w := w) (g := g) (row := none) (kR6 HK)) : w.heap.size ≤ gb193) : w0.heap.size ≤ gb193)); replace HK := yD (aU.trans (kR6 HK) (aU.of_below hb g none) (.inl rfl)); have NB185_193 := yD ((by rw [hg]; exact Nat.ne_of_lt (cT (kN BK185)) : gb185 ≠ gb193)); have NB193_185 := yD ((by rw [hg]; exact Nat.ne_of_gt (cT (kN BK185)) : gb193 ≠ gb185)); replace BK185 := zY BK185 hb; have NB0_193 := yD ((by rw [hg]; exact Nat.ne_of_lt (bB.lt (show bB w0 _ g s0_0 t191 t192 from kR5 HI0)) : g ≠ gb193)); have NB193_0 := yD ((by rw [hg]; exact Nat.ne_of_gt (bB.lt (show bB w0 _ g s0_0 t191 t192 from kR5 HI0)) : gb193 ≠ g)); replace HI0 := yD (bB.below (kR5 HI0) hb); clear hb hbox hg; have hnb28 := NB193_185.out; have hnc28 := NB185_193.out; have hnb29 := NB193_0.out; have hnc29 := NB0_193.out; have := cf6_ BK193.out) | (refine gC 41 ?_; refine gL 29 Try.func41 _ (dw (bL.calls g s0_0 t191 t192 6 t194 t195 t196 w0 _ ?z1 ?z2 A26.out) fun w31 hi hb hk => ?_); (case z1 => exact kR5 HI0); (case z2 => exact kR7 HB); replace BK185 := yD (aU.blk hk (g' := gb185) (o := .cells #[.int .i64 0, .slice none 0 0, .slice none 0 0, .slice none 0 0, .slice none 0 0, .slice none 0 0] 26 (0, 0)) (by (with_reducible repeat (first | refine yM ?_ _ | refine yO ?_ | refine yN ?_ _)); refine blk_far ?_ NB185_193.out _; (with_reducible repeat (first | refine yM ?_ _ | refine yO ?_ | refine yN ?_ _)); refine blk_far ?_ NB185_193.out _; (with_reducible repeat (first | refine yM ?_ _ | refine yO ?_ | refine yN ?_ _)); refine blk_far ?_ NB185_193.out _; (with_reducible repeat (first | refine yM ?_ _ | refine yO ?_ | refine yN ?_ _)); refine blk_far ?_ NB185_193.out _; (with_reducible repeat (first | refine yM ?_ _ | refine yO ?_ | refine yN ?_ _)); refine blk_far ?_ NB185_193.out _; (with_reducible repeat (first | refine yM ?_ _ | refine yO ?_ | refine yN ?_ _)); refine blk_far ?_ NB185_193.out _; (with_reducible repeat (first | refine yM ?_ _ | refine yO ?_ | refine yN ?_ _)); exact BK185.out) NB185_0.out (by simp)); replace BK193 := yD (aU.blk hk (g' := gb193) (o := .cells #[.int .i64 4, .slice none 0 0, .slice none 0 0, .slice none 0 0, .slice none 0 0, .slice none 0 0] 26 (0, 0)) (by (with_reducible repeat (first | refine yM ?_ _ | refine yO ?_ | refine yN ?_ _)); exact bA6_ BK193.out) NB193_0.out (by simp)); replace HK := yD (aU.trans (kR6 HK) hk (.inl rfl)); replace HB := yD (hb); replace HI0 := yD (hi); clear hb hk hi))
   (try simp only [Act.put, zH, zI, zJ])
   go_loopg [6] kj20 (fun kq v6 w' => ∃ (x6_2 : Int) (x1001_2 : Int) (x1002_2 : Int) (x194005_2 : List (S68)) (u194005 : Value), v6 = .int .i64 x6_2 ∧ aC (bY.l0 kq l1 x6_2 s0_0 x1001_2 x1002_2 4 x194005_2 = some (r1, r2, r3, r4, r5, r6, r7, r8)) ∧ aC (kq ≤ kj20) ∧ aC (Kd.S k68 68 w' w.heap.size (fun _ => True) u194005 x194005_2) ∧ aC (w'.heap[gb185]? = some (.cells #[.int .i64 0, (.slice none 0 0), (.slice none 0 0), (.slice none 0 0), (.slice none 0 0), (.slice none 0 0)] 26 (0, 0))) ∧ aC (w'.heap[gb193]? = some (.cells #[.int .i64 4, (.slice none 0 0), (.slice none 0 0), (.slice none 0 0), (.slice none 0 0), u194005] 26 (0, 0))) ∧ aC (bB w0 w' g s0_0 x1001_2 x1002_2) ∧ aC (aU w w' g none) ∧ aC (Below w0.heap.size w0 w'))
   case atStart => exact ⟨(t194), (t195), (t196), (([] : List (S68))), (.slice none 0 0), kF, H', ⟨Nat.le_refl _⟩, ⟨by first | exact Kd.S_nil _ _ _ _ _ | exact Kd.N_nil _ _ _ _ _ | exact Kd.V_nil _ _ _ _ _ | exact Kd.Q_nil _ _ _ _ _ | exact Kd.R_nil _ _ _ _ _⟩, ⟨kM BK185⟩, ⟨kM BK193⟩, ⟨kR5 HI0⟩, ⟨kR6 HK⟩, ⟨kR7 HB⟩⟩
   case round =>
    clear H'
    obtain ⟨x6_2, x1001_2, x1002_2, x194005_2, u194005, rfl, HA, HK2, HO_194005, BK185, BK193, HI0, HK, HB⟩ := hrel
    cases gk with
    | zero => exact absurd HA.out (by simp [bY.l0])
    | succ k2 =>
     have H := HA.out; clear HA
     simp only [bY.l0] at H
     replace H := sC H; rcases H with ⟨c32, H⟩ | ⟨c32, H⟩
     ·
      have c32b0 : decide (0 ≤ x6_2) = false := zS c32; clear c32
      simp only [Option.some.injEq, Prod.mk.injEq] at H
      obtain ⟨rfl, rfl, rfl, rfl, rfl, rfl, rfl, rfl⟩ := H
      have hnb49 := NB193_185.out; have hnc49 := NB185_193.out; have hnb50 := NB193_0.out; have hnc50 := NB0_193.out
      have := cf6_ BK193.out
      have hnb52 := NB185_0.out; have hnc52 := NB0_185.out
      have := cf6_ BK185.out
      obtain ⟨Ao54, co54, eo54⟩ := Kd.S_slice HO_194005.out
      subst eo54
      go_wp2
      refine bodyPost_ret (results_cell_row rfl _ _ gb185 26 #[.int .i64 4, .slice none 0 0, .slice none 0 0, .slice none 0 0, .slice none 0 0, .slice Ao54 x194005_2.length co54] (0, 0) _ rfl (by (with_reducible repeat (first | refine yM ?_ _ | refine yO ?_ | refine yN ?_ _)); exact bA6_ BK185.out) Try.underlying26 rfl (by kernel_rfl)) rfl ?_
      exact ⟨_, _, _, _, _, kE, by first | exact Kd.R_nil _ _ _ _ _ | exact Kd.N_nil _ _ _ _ _ | exact Kd.V_nil _ _ _ _ _ | exact Kd.Q_nil _ _ _ _ _ | exact Kd.S_nil _ _ _ _ _, by first | exact Kd.R_nil _ _ _ _ _ | exact Kd.N_nil _ _ _ _ _ | exact Kd.V_nil _ _ _ _ _ | exact Kd.Q_nil _ _ _ _ _ | exact Kd.S_nil _ _ _ _ _, by first | exact Kd.R_nil _ _ _ _ _ | exact Kd.N_nil _ _ _ _ _ | exact Kd.V_nil _ _ _ _ _ | exact Kd.Q_nil _ _ _ _ _ | exact Kd.S_nil _ _ _ _ _, by first | exact Kd.R_nil _ _ _ _ _ | exact Kd.N_nil _ _ _ _ _ | exact Kd.V_nil _ _ _ _ _ | exact Kd.Q_nil _ _ _ _ _ | exact Kd.S_nil _ _ _ _ _, by (with_reducible repeat (first | apply yS | apply yT | apply yU)); exact Kd.S_mono (Kd.S_far (p := ⟨gb185, 5, none⟩) (Kd.S_far (p := ⟨gb185, 4, none⟩) (Kd.S_far (p := ⟨gb185, 3, none⟩) (Kd.S_far (p := ⟨gb185, 2, none⟩) (Kd.S_far (p := ⟨gb185, 1, none⟩) (Kd.S_far (p := ⟨gb185, 0, none⟩) (Kd.S_types HO_194005.out BK185.out (by decide)) (fun _ hk => hk.2) (.int .i64 4)) (fun _ hk => hk.2) (.slice none 0 0)) (fun _ hk => hk.2) (.slice none 0 0)) (fun _ hk => hk.2) (.slice none 0 0)) (fun _ hk => hk.2) (.slice none 0 0)) (fun _ hk => hk.2) (.slice Ao54 x194005_2.length co54)) (fun _ hk => ⟨(by simp [oB, Value.ownBlock]), ⟨(by simp [oB, Value.ownBlock]), ⟨(by simp [oB, Value.ownBlock]), (by simp [oB, Value.ownBlock])⟩⟩⟩), kR5 HI0, kR7 HB, kR6 HK⟩
     have c32b0 : decide (0 ≤ x6_2) = true := zR c32; clear c32
     obtain ⟨y197, hy197⟩ : ∃ y_ : List Int, y_ = (([] : List Int)) := ⟨_, rfl⟩
     replace H : (bY.l1 k2 l1 x6_2 y197 0 s0_0 x1001_2 x1002_2 4 x194005_2) = some (r1, r2, r3, r4, r5, r6, r7, r8) := by first | (rw [hy197]; with_reducible exact H) | (have H2_ := (Option.bind_some _ _).symm.trans H; rw [hy197]; with_reducible exact H2_) | (have H2_ := (Option.bind_some _ _).symm.trans H; with_reducible exact H2_) | with_reducible exact H | (rw [hy197]; exact H) | exact H
     have Ny197 := yD hy197
     clear hy197
     have H' := yD H
     clear H
     go_wp2_with (first | (refine gD 34 ?_; refine Kd.R_lit (Kd.int .i64) _ 2 ?hg (N := 34) ?hd (xs := ([] : List Int)) (inner := []) (ok := fun _ => True) (okp := fun _ => True) ?hr ?hp (fun _ hk => hk) trivial (Below.refl _ _) (Nat.le_refl _) (by simp) ?_; (case hd => rfl); (case hg => rfl); (case hr => first | (go_simp; done) | (go_simp; rfl)); (case hp => exact (cW.none _ _)); intro v198 w33 ho34 hb hg_ hnew_; clear hg_ hnew_; (first | rw [← Ny197.out] at ho34 | (simp only [Int.reduceToNat] at ho34; rw [← Ny197.out] at ho34)); replace HO_194005 := yD (Kd.S_elder' (kS HO_194005) (yH ho34) hb); have HO199 := yD (yZ ho34 (keep_size (w := w) (g := g) (row := none) (kR6 HK))); replace BK185 := zY BK185 hb; replace BK193 := zY BK193 hb; replace HI0 := yD (bB.below (kR5 HI0) hb); replace HK := yD (aU.trans (kR6 HK) (aU.of_below hb g none) (.inl rfl)); replace HB := yD (zC (kR7 HB) hb); clear hb ho34))
     (try simp only [Act.put, zH, zI, zJ])
     go_loopg [7, 8] k2 (fun kq v7 v8 w' => ∃ (x7_3 : List Int) (x8_3 : Int) (x1001_3 : Int) (x1002_3 : Int), v8 = .int .i64 x8_3 ∧ aC (bY.l1 kq l1 x6_2 x7_3 x8_3 s0_0 x1001_3 x1002_3 4 x194005_2 = some (r1, r2, r3, r4, r5, r6, r7, r8)) ∧ aC (kq ≤ k2) ∧ aC (Kd.R (Kd.int .i64) 2 w' w.heap.size (fun _ => True) v7 x7_3) ∧ aC (Kd.S k68 68 w' w.heap.size (fun k_ => oB v7 k_) u194005 x194005_2) ∧ aC (w'.heap[gb185]? = some (.cells #[.int .i64 0, (.slice none 0 0), (.slice none 0 0), (.slice none 0 0), (.slice none 0 0), (.slice none 0 0)] 26 (0, 0))) ∧ aC (w'.heap[gb193]? = some (.cells #[.int .i64 4, (.slice none 0 0), (.slice none 0 0), (.slice none 0 0), (.slice none 0 0), u194005] 26 (0, 0))) ∧ aC (bB w0 w' g s0_0 x1001_3 x1002_3) ∧ aC (aU w w' g none) ∧ aC (Below w0.heap.size w0 w'))
     case atStart => exact ⟨(y197), (0), (x1001_2), (x1002_2), kF, H', ⟨Nat.le_refl _⟩, ⟨kA HO199⟩, ⟨mS HO_194005 (fun _ hk => hk.2)⟩, ⟨kM BK185⟩, ⟨kM BK193⟩, ⟨kR5 HI0⟩, ⟨kR6 HK⟩, ⟨kR7 HB⟩⟩
     case round =>
      clear H'
      obtain ⟨x7_3, x8_3, x1001_3, x1002_3, rfl, HA, HK3, HO_7, HO_194005, BK185, BK193, HI0, HK, HB⟩ := hrel
      cases gk with
      | zero => exact absurd HA.out (by simp [bY.l1])
      | succ k3 =>
       have H := HA.out; clear HA
       simp only [bY.l1] at H
       replace H := sG H; rcases H with ⟨c35b0, H⟩ | ⟨c35b0, H⟩
       ·
        replace ⟨LMc41, H⟩ := sM H
        generalize hy207 : ((x194005_2 ++ [(⟨x7_3⟩ : S68)]) : List (S68)) = y207 at H
        have Ny207 := yD hy207.symm
        clear hy207
        have H' := yD H
        clear H; have hnb42 := NB193_185.out; have hnc42 := NB185_193.out; have hnb43 := NB193_0.out; have hnc43 := NB0_193.out
        have := cf6_ BK193.out
        obtain ⟨Ao45, co45, eo45⟩ := Kd.bS HO_7.out
        subst eo45
        go_wp2_with (first | ((with_reducible refine gate_builtin (b := .append) (xs := #[.tmp 51, .tmp 54]) rfl ?_); at_builtin; refine Kd.S_append k68 w.heap.size rfl (.tmp 51) (.tmp 54) 24 68 (.agg #[(.slice none 0 0)]) 24 rfl Try.underlying24 info68 rfl (by decide) (by omega) u194005 x194005_2 (⟨x7_3⟩ : S68) [.slice Ao45 x7_3.length co45] (fun _ => True) (fun k_ => some k_ = (.slice Ao45 x7_3.length co45 : Value).ownBlock) rfl rfl ?aP (fun k_ hk_ => ((zF (ok' := fun k_ => ((fun _ => True)) k_ ∧ oB u194005 k_) (Kd.cH (HO_7.out) (Kd.S_typed HO_194005.out) (by decide)) (fun k_ hk => ⟨trivial, hk.2⟩))).1 k_ hk_.symm) ?aF ?aO (Below.refl _ _) ?aS ?aL ?_; (case aP => exact k68_mkM _ _ _ (⟨x7_3⟩ : S68) (zF (Kd.R_tight rfl (zF (ok' := fun k_ => ((fun _ => True)) k_ ∧ oB u194005 k_) (Kd.cH (HO_7.out) (Kd.S_typed HO_194005.out) (by decide)) (fun k_ hk => ⟨trivial, hk.2⟩))) (fun _ h_ => h_))); (case aF => exact (fun _ _ => trivial)); (case aO => exact (mS HO_194005 (fun k_ hk => ⟨trivial, fun e_ => hk e_⟩))); (case aS => exact (keep_size (w := w) (g := g) (row := none) (kR6 HK))); (case aL => have := LMc41.out; omega); intro v208 w46 ho hb hg hat; rw [← Ny207.out] at ho; replace BK185 := yD (blk_grown (g := gb185) (o := .cells #[.int .i64 0, .slice none 0 0, .slice none 0 0, .slice none 0 0, .slice none 0 0, .slice none 0 0] 26 (0, 0)) (kM BK185) hg (Kd.S_ne HO_194005.out BK185.out (by decide))); replace BK193 := yD (blk_grown (g := gb193) (o := .cells #[.int .i64 4, .slice none 0 0, .slice none 0 0, .slice none 0 0, .slice none 0 0, u194005] 26 (0, 0)) (kM BK193) hg (Kd.S_ne HO_194005.out BK193.out (by decide))); replace HI0 := yD (bB.grown (kR5 HI0) hg (bB.own_neS HI0.out HO_194005.out (by decide))); replace HB := yD (below_weaken (kR7 HB) HL.out hb); replace HK := yD (aU.trans (kR6 HK) (aU.of_grown hg g) (Kd.S_base2 HO_194005.out)); have HO209 := yD (ho); clear HO_194005 HO_7; clear ho hb hg hat; obtain ⟨Ao47, co47, eo47⟩ := Kd.S_slice HO209.out; subst eo47; have := cf6_ BK193.out))
        go_roundg k3
        case measure => have := HJ20.out; have := HK2.out; have := HK3.out; omega
        case rel => exact ⟨(wrap64 (x6_2 - 1)), (x1001_3), (x1002_3), (y207), (.slice Ao47 y207.length co47), kF, H', ⟨by have := HJ20.out; have := HK2.out; have := HK3.out; omega⟩, ⟨by (with_reducible repeat (first | apply yS | apply yT | apply yU)); exact Kd.S_mono (Kd.S_far (p := ⟨gb193, 5, none⟩) (Kd.S_types HO209.out BK193.out (by decide)) (fun _ hk => hk.2) (.slice Ao47 y207.length co47)) (fun _ hk => trivial)⟩, ⟨by (with_reducible repeat (first | refine yM ?_ _ | refine yO ?_ | refine yN ?_ _)); refine blk_far ?_ NB185_193.out _; (with_reducible repeat (first | refine yM ?_ _ | refine yO ?_ | refine yN ?_ _)); exact BK185.out⟩, ⟨by (with_reducible repeat (first | refine yM ?_ _ | refine yO ?_ | refine yN ?_ _)); refine blk_put (cs := #[.int .i64 4, .slice none 0 0, .slice none 0 0, .slice none 0 0, .slice none 0 0, u194005]) ?_ 5 _ rfl; (with_reducible repeat (first | refine yM ?_ _ | refine yO ?_ | refine yN ?_ _)); exact BK193.out⟩, ⟨kR5 HI0⟩, ⟨kR6 HK⟩, ⟨kR7 HB⟩⟩
       replace ⟨c36b0, H⟩ := sE H
       replace ⟨⟨t201, t202, t203⟩, A37, H⟩ := sV H
       replace ⟨LMc38, H⟩ := sM H
       generalize hy204 : ((x7_3 ++ [t201]) : List Int) = y204 at H
       have Ny204 := yD hy204.symm
       clear hy204
       have H' := yD H
       clear H
       obtain ⟨p200, q200, ad200, e200, hx200_0⟩ := sI (Kd.aX C1.r x8_3)
       cases e200
       replace hx200_0 := keep_cell HK.out hx200_0 (by have h1_ := of_eq_true p200; have h2_ := of_eq_true q200; first | (rw [add_block]; exact hf1 _ rfl (by omega)) | exact hf1 _ rfl (by omega) | exact hf1 ad200 rfl (by omega))
       go_wp2_with (first | (refine gC 41 ?_; refine gL 47 Try.func41 _ (dw (bL.calls g s0_0 x1001_3 x1002_3 (rd l1 x8_3) t201 t202 t203 w0 _ ?z1 ?z2 A37.out) fun w39 hi hb hk => ?_); (case z1 => exact kR5 HI0); (case z2 => exact kR7 HB); replace HO_7 := yD (zF (Kd.R_keep (bB.apart (show bB w0 _ g s0_0 x1001_3 x1002_3 from kR5 HI0) (kA HO_7) (by decide)) hk (fun _ h => h.2)) (fun _ h => h.1)); replace HO_194005 := yD (Kd.S_mono (Kd.S_keep (bB.apartS (show bB w0 _ g s0_0 x1001_3 x1002_3 from kR5 HI0) (kS HO_194005) (by decide)) hk (fun _ h => h.2)) (fun _ h => h.1)); replace BK185 := yD (aU.blk hk (g' := gb185) (o := .cells #[.int .i64 0, .slice none 0 0, .slice none 0 0, .slice none 0 0, .slice none 0 0, .slice none 0 0] 26 (0, 0)) (kM BK185) NB185_0.out (by simp)); replace BK193 := yD (aU.blk hk (g' := gb193) (o := .cells #[.int .i64 4, .slice none 0 0, .slice none 0 0, .slice none 0 0, .slice none 0 0, u194005] 26 (0, 0)) (kM BK193) NB193_0.out (by simp)); replace HK := yD (aU.trans (kR6 HK) hk (.inl rfl)); replace HB := yD (hb); replace HI0 := yD (hi); clear hb hk hi) | ((with_reducible refine gate_builtin (b := .append) (xs := #[.tmp 41, .tmp 48]) rfl ?_); at_builtin; refine Kd.R_append (Kd.int .i64) w.heap.size rfl (.tmp 41) (.tmp 48) 23 2 (.int .i64 0) 8 rfl Try.underlying23 info2 rfl (by decide) (by omega) u7 x7_3 t201 [.int .i64 t201] (fun _ => True) (fun _ => False) rfl rfl ?aP (fun _ hk => hk.elim) ?aF ?aO (Below.refl _ _) ?aS ?aL ?_; (case aP => exact rfl); (case aF => exact (fun _ _ => trivial)); (case aO => exact (kA HO_7)); (case aS => exact (keep_size (w := w) (g := g) (row := none) (kR6 HK))); (case aL => have := LMc38.out; omega); intro v205 w40 ho hb hg hat; rw [← Ny204.out] at ho; replace HO_194005 := yD (Kd.S_after (ok := (fun _ => True)) (mS HO_194005 (fun _ hk => ⟨trivial, hk⟩)) hg hat); replace BK185 := yD (blk_grown (g := gb185) (o := .cells #[.int .i64 0, .slice none 0 0, .slice none 0 0, .slice none 0 0, .slice none 0 0, .slice none 0 0] 26 (0, 0)) (kM BK185) hg (Kd.R_ne HO_7.out BK185.out (by decide))); replace BK193 := yD (blk_grown (g := gb193) (o := .cells #[.int .i64 4, .slice none 0 0, .slice none 0 0, .slice none 0 0, .slice none 0 0, u194005] 26 (0, 0)) (kM BK193) hg (Kd.R_ne HO_7.out BK193.out (by decide))); replace HI0 := yD (bB.grown (kR5 HI0) hg (bB.own_ne HI0.out HO_7.out (by decide))); replace HB := yD (below_weaken (kR7 HB) HL.out hb); replace HK := yD (aU.trans (kR6 HK) (aU.of_grown hg g) (Kd.R_base2 HO_7.out)); have HO206 := yD (ho); clear HO_7; clear ho hb hg hat))
       go_roundg k3
       case measure => have := HJ20.out; have := HK2.out; have := HK3.out; omega
       case rel => exact ⟨(y204), (wrap64 (x8_3 + 1)), (t202), (t203), kF, H', ⟨by have := HJ20.out; have := HK2.out; have := HK3.out; omega⟩, ⟨kA HO206⟩, ⟨mS HO_194005 (fun _ hk => hk.2)⟩, ⟨kM BK185⟩, ⟨kM BK193⟩, ⟨kR5 HI0⟩, ⟨kR6 HK⟩, ⟨kR7 HB⟩⟩
def spec_E8Selection.f (k : Nat) (l0 : List Int) : Option (List Int × Int × List Int × List Int × List Int × List Int × (List (S68))) := (spec_l00From.f l0).bind fun bt229 => ((spec_l05DrawDims.f k bt229.1 bt229.2.1 bt229.2.2).bind fun bt233 => ((bY.f k bt229.1 bt233.2.1 bt233.2.2 bt233.1).bind fun bt238 => (some (bt233.1, bt238.1, bt238.2.1, bt238.2.2.1, bt238.2.2.2.1, bt238.2.2.2.2.1, bt238.2.2.2.2.2.1))))
theorem spec_E8Selection.calls (k : Nat) (A0 : Option Addr) (c0 : Nat) (l0 : List Int) (r1 : List Int) (r2 : Int) (r3 : List Int) (r4 : List Int) (r5 : List Int) (r6 : List Int) (r7 : List (S68)) (w : World) (C0 : Cm (Kd.int .u8) w A0 c0 l0) (h : spec_E8Selection.f k l0 = some (r1, r2, r3, r4, r5, r6, r7)) :
 Calls Try.prog 4 #[.slice A0 l0.length c0] w fun e w' => ∃ v0_ v2_ v3_ v4_ v5_ v6_ : Value, e = .returned (.tuple #[v0_, .agg #[.int .i64 r2, v2_, v3_, v4_, v5_, v6_]]) ∧ Kd.R (Kd.int .i64) 2 w' w.heap.size (fun k_ => some k_ ≠ (v2_ : Value).ownBlock ∧ some k_ ≠ (v3_ : Value).ownBlock ∧ some k_ ≠ (v4_ : Value).ownBlock ∧ some k_ ≠ (v5_ : Value).ownBlock) v0_ r1 ∧ Kd.R (Kd.int .i64) 2 w' w.heap.size (fun k_ => some k_ ≠ (v0_ : Value).ownBlock ∧ some k_ ≠ (v3_ : Value).ownBlock ∧ some k_ ≠ (v4_ : Value).ownBlock ∧ some k_ ≠ (v5_ : Value).ownBlock) v2_ r3 ∧ Kd.R (Kd.int .i64) 2 w' w.heap.size (fun k_ => some k_ ≠ (v0_ : Value).ownBlock ∧ some k_ ≠ (v2_ : Value).ownBlock ∧ some k_ ≠ (v4_ : Value).ownBlock ∧ some k_ ≠ (v5_ : Value).ownBlock) v3_ r4 ∧ Kd.R (Kd.int .i64) 2 w' w.heap.size (fun k_ => some k_ ≠ (v0_ : Value).ownBlock ∧ some k_ ≠ (v2_ : Value).ownBlock ∧ some k_ ≠ (v3_ : Value).ownBlock ∧ some k_ ≠ (v5_ : Value).ownBlock) v4_ r5 ∧ Kd.R (Kd.int .i64) 2 w' w.heap.size (fun k_ => some k_ ≠ (v0_ : Value).ownBlock ∧ some k_ ≠ (v2_ : Value).ownBlock ∧ some k_ ≠ (v3_ : Value).ownBlock ∧ some k_ ≠ (v4_ : Value).ownBlock) v5_ r6 ∧ Kd.S k68 68 w' w.heap.size (fun k_ => some k_ ≠ (v0_ : Value).ownBlock ∧ some k_ ≠ (v2_ : Value).ownBlock ∧ some k_ ≠ (v3_ : Value).ownBlock ∧ some k_ ≠ (v4_ : Value).ownBlock ∧ some k_ ≠ (v5_ : Value).ownBlock) v6_ r7 ∧ Below w.heap.size w w' := by
 have hu26 := Try.underlying26
 have HB := yD (Below.refl w.heap.size w)
 have H : ((spec_l00From.f l0).bind fun bt229 => ((spec_l05DrawDims.f k bt229.1 bt229.2.1 bt229.2.2).bind fun bt233 => ((bY.f k bt229.1 bt233.2.1 bt233.2.2 bt233.1).bind fun bt238 => (some (bt233.1, bt238.1, bt238.2.1, bt238.2.2.1, bt238.2.2.2.1, bt238.2.2.2.2.1, bt238.2.2.2.2.2.1))))) = some (r1, r2, r3, r4, r5, r6, r7) := h
 clear h
 replace ⟨⟨t229, t230, t231⟩, A2, H⟩ := sV H
 replace ⟨⟨t233, t236, t237⟩, A3, H⟩ := sV H
 replace ⟨⟨t238, t239, t242, t245, t248, t251, t254, t255⟩, A4, H⟩ := sV H
 simp only [Option.some.injEq, Prod.mk.injEq] at H
 obtain ⟨rfl, rfl, rfl, rfl, rfl, rfl, rfl⟩ := H
 go_enter Try.func4, Try.ntmps4
 go_wp2_with (first | (refine gD 3 ?_; refine bF (N := 3) (cs := #[.int .i64 0, .slice none 0 0, .slice none 0 0, .slice none 0 0, .slice none 0 0, .slice none 0 0]) (t := 26) HB ?_; intro gb228 w5 BK228 GW228 HB) | (refine gC 14 ?_; refine gL 7 Try.func14 _ ((spec_l00From.calls _ _ l0 t229 t230 t231 w _ ?z1 ?z2 ?z3 A2.out).mono ?_); (case z1 => exact kR1 HB); (case z2 => exact C0.r); (case z3 => exact C0.h); rintro e w6 ⟨g232, rfl, hi, hb, hb2⟩; refine ⟨_, rfl, ?_⟩; replace HB := yD (hb); have HI232 := yD (hi); have NB232_228 := yD (bB.ne_blk hi (zB (kN BK228) hb2) (by decide)); have NB228_232 := yD (Ne.symm (bB.ne_blk hi (zB (kN BK228) hb2) (by decide))); replace BK228 := yD (zB (kN BK228) hb2); clear hb hb2 hi) | (refine gC 15 ?_; refine gL 9 Try.func15 _ ((spec_l05DrawDims.calls k g232 t229 t230 t231 t233 t236 t237 w _ ?z1 ?z2 A3.out).mono ?_); (case z1 => exact kR5 HI232); (case z2 => exact kR7 HB); rintro e w7 ⟨v234, rfl, ho0, hi, hb, hk⟩; refine ⟨_, rfl, ?_⟩; replace BK228 := yD (aU.blk hk (g' := gb228) (o := .cells #[.int .i64 0, .slice none 0 0, .slice none 0 0, .slice none 0 0, .slice none 0 0, .slice none 0 0] 26 (0, 0)) (kM BK228) NB228_232.out (by simp)); have HO235 := yD (yZ ho0 (aD (kR7 HB))); replace HB := yD (hb); replace HI232 := yD (hi); clear hb hk hi ho0; obtain ⟨Ao8, co8, eo8⟩ := Kd.bS HO235.out; subst eo8) | (refine gC 16 ?_; refine gL 13 Try.func16 _ ((bY.calls k g232 t229 t236 t237 _ _ t233 t238 t239 t242 t245 t248 t251 t254 t255 w _ ?z1 ?z2 ?z3 ?z5 A4.out).mono ?_); (case z1 => exact kR5 HI232); (case z2 => exact kR7 HB); (case z3 => exact ⟨kV (zA HO235.out).2.2, (zA HO235.out).2.1⟩); (case z5 => exact far_slice (bB.own_ne HI232.out HO235.out (by decide))); rintro e w9 ⟨v240, v243, v246, v249, v252, rfl, ho0, ho1, ho2, ho3, ho4, hi, hb, hk⟩; refine ⟨_, rfl, ?_⟩; replace BK228 := yD (aU.blk hk (g' := gb228) (o := .cells #[.int .i64 0, .slice none 0 0, .slice none 0 0, .slice none 0 0, .slice none 0 0, .slice none 0 0] 26 (0, 0)) (kM BK228) NB228_232.out (by simp)); have HO241 := yD (yZ (yJ ho0 (yK (kA HO235))) (aD (kR7 HB))); have HO244 := yD (yZ (yJ ho1 (yK (kA HO235))) (aD (kR7 HB))); have HO247 := yD (yZ (yJ ho2 (yK (kA HO235))) (aD (kR7 HB))); have HO250 := yD (yZ (yJ ho3 (yK (kA HO235))) (aD (kR7 HB))); have HO253 := yD (zG (zD ho4 (yK (kA HO235))) (aD (kR7 HB))); replace HO235 := yD (zF (yI (yI (yI (yI (Kd.R_oldK (bB.apart (show bB w _ g232 t229 t236 t237 from kR5 HI232) (kA HO235) (by decide)) hk) (yH ho0)) (yH ho1)) (yH ho2)) (yH ho3)) (fun _ h_ => h_.1)); replace HB := yD (hb); replace HI232 := yD (hi); clear hb hk hi ho0 ho1 ho2 ho3 ho4; have hnb10 := NB228_232.out; have hnc10 := NB232_228.out; have := cf6_ BK228.out; obtain ⟨Ao12, co12, eo12⟩ := Kd.bS HO241.out; subst eo12; obtain ⟨Ao13, co13, eo13⟩ := Kd.bS HO244.out; subst eo13; obtain ⟨Ao14, co14, eo14⟩ := Kd.bS HO247.out; subst eo14; obtain ⟨Ao15, co15, eo15⟩ := Kd.bS HO250.out; subst eo15; obtain ⟨Ao16, co16, eo16⟩ := Kd.S_slice HO253.out; subst eo16))
 refine bodyPost_ret (results_tc rfl _ _ gb228 26 #[.int .i64 t238, .slice Ao12 t239.length co12, .slice Ao13 t242.length co13, .slice Ao14 t245.length co14, .slice Ao15 t248.length co15, .slice Ao16 t251.length co16] (0, 0) _ rfl (by (with_reducible repeat (first | refine yM ?_ _ | refine yO ?_ | refine yN ?_ _)); exact bA6_ BK228.out) Try.underlying26 rfl (by kernel_rfl)) rfl ?_
 exact ⟨_, _, _, _, _, _, kE, by (with_reducible repeat (first | apply yA | apply yB | apply yC)); exact zF (yS_ (yS_ (yS_ (yS_ (yS_ (yS_ (Kd.bQ HO235.out BK228.out (by decide)))))))) (fun _ hk => ⟨hk.1.1.1.1.2, ⟨hk.1.1.1.2, ⟨hk.1.1.2, hk.1.2⟩⟩⟩), by (with_reducible repeat (first | apply yA | apply yB | apply yC)); exact zF (yS_ (yS_ (yS_ (yS_ (yS_ (yS_ (Kd.bQ HO241.out BK228.out (by decide)))))))) (fun _ hk => ⟨hk.1.2, ⟨hk.1.1.1, ⟨hk.1.1.2.1, hk.1.1.2.2⟩⟩⟩), by (with_reducible repeat (first | apply yA | apply yB | apply yC)); exact zF (yS_ (yS_ (yS_ (yS_ (yS_ (yS_ (Kd.bQ HO244.out BK228.out (by decide)))))))) (fun _ hk => ⟨hk.1.2, ⟨hk.1.1.1, ⟨hk.1.1.2.1, hk.1.1.2.2⟩⟩⟩), by (with_reducible repeat (first | apply yA | apply yB | apply yC)); exact zF (yS_ (yS_ (yS_ (yS_ (yS_ (yS_ (Kd.bQ HO247.out BK228.out (by decide)))))))) (fun _ hk => ⟨hk.1.2, ⟨hk.1.1.1, ⟨hk.1.1.2.1, hk.1.1.2.2⟩⟩⟩), by (with_reducible repeat (first | apply yA | apply yB | apply yC)); exact zF (yS_ (yS_ (yS_ (yS_ (yS_ (yS_ (Kd.bQ HO250.out BK228.out (by decide)))))))) (fun _ hk => ⟨hk.1.2, ⟨hk.1.1.1, ⟨hk.1.1.2.1, hk.1.1.2.2⟩⟩⟩), by (with_reducible repeat (first | apply yS | apply yT | apply yU)); exact Kd.S_mono (Kd.S_far (p := ⟨gb228, 5, none⟩) (Kd.S_far (p := ⟨gb228, 4, none⟩) (Kd.S_far (p := ⟨gb228, 3, none⟩) (Kd.S_far (p := ⟨gb228, 2, none⟩) (Kd.S_far (p := ⟨gb228, 1, none⟩) (Kd.S_far (p := ⟨gb228, 0, none⟩) (Kd.S_types HO253.out BK228.out (by decide)) (fun _ hk => hk.2) (.int .i64 t238)) (fun _ hk => hk.2) (.slice Ao12 t239.length co12)) (fun _ hk => hk.2) (.slice Ao13 t242.length co13)) (fun _ hk => hk.2) (.slice Ao14 t245.length co14)) (fun _ hk => hk.2) (.slice Ao15 t248.length co15)) (fun _ hk => hk.2) (.slice Ao16 t251.length co16)) (fun _ hk => ⟨hk.1.2, ⟨hk.1.1.1, ⟨hk.1.1.2.1, ⟨hk.1.1.2.2.1, hk.1.1.2.2.2⟩⟩⟩⟩), kR7 HB⟩
def bT.f (a0 a1 a2 : Int) : Option (Bool) := if a0 ≥ a1 then (some (decide (a0 ≤ a2))) else (some false)
theorem bT.calls (a0 : Int) (a1 : Int) (a2 : Int) (r : Bool) (w : World) (h : bT.f a0 a1 a2 = some r) :
 Calls Try.prog 62 #[.int .i64 a0, .int .i64 a1, .int .i64 a2] w fun e w' => e = .returned (.bool r) ∧ aT w w' := by
 unfold bT.f at h
 have H := h
 clear h
 replace H := sC H; rcases H with ⟨c4, H⟩ | ⟨c4, H⟩
 ·
  have c4b0 : decide (a1 ≤ a0) = false := zS c4; clear c4; obtain rfl := sJ H; go_enter Try.func62, Try.ntmps62
  go_wp2
  go_ret
  exact ⟨by first | rfl | (simp; done) | (simp [*]; done), by repeat (first | exact aT.refl _ | apply aT.step)⟩
 have c4b0 : decide (a1 ≤ a0) = true := zR c4; clear c4; obtain rfl := sJ H; go_enter Try.func62, Try.ntmps62
 go_wp2
 go_ret
 exact ⟨by first | rfl | (simp; done) | (simp [*]; done), by repeat (first | exact aT.refl _ | apply aT.step)⟩
def impl_allWithin_1.f (a0 a1_0 a2_0 : Int) : Option (Bool) := (bT.f a0 a1_0 a2_0).bind fun t256 => (some (!t256))
theorem impl_allWithin_1.calls (a0 : Int) (g1_0 : Nat) (a1_0 : Int) (g2_0 : Nat) (a2_0 : Int) (r : Bool) (w : World) (hb1_0 : w.heap[g1_0]? = some (.cells #[.int .i64 a1_0] 2 (0, 0))) (hb2_0 : w.heap[g2_0]? = some (.cells #[.int .i64 a2_0] 2 (0, 0))) (h : impl_allWithin_1.f a0 a1_0 a2_0 = some r) :
 Calls Try.prog 87 #[.int .i64 a0, .pointer (some ⟨g1_0, 0, none⟩), .pointer (some ⟨g2_0, 0, none⟩)] w fun e w' => e = .returned (.bool r) ∧ Below w.heap.size w w' := by
 have BK48 := yD hb1_0
 clear hb1_0
 have BK56 := yD hb2_0
 clear hb2_0
 have HB := yD (Below.refl w.heap.size w)
 unfold impl_allWithin_1.f at h
 have H := h
 clear h
 replace ⟨t256, A4, H⟩ := sV H
 obtain rfl := sJ H
 have hcz5_0 : w.cell? ⟨g1_0, 0, none⟩ = some (.int .i64 a1_0) := (yG BK48.out 0).trans rfl
 have hfz5_0 := yR BK48.out 0
 have hcz6_0 : w.cell? ⟨g2_0, 0, none⟩ = some (.int .i64 a2_0) := (yG BK56.out 0).trans rfl
 have hfz6_0 := yR BK56.out 0
 go_enter Try.func87, Try.ntmps87
 go_wp2_with (first | (refine gC 62 ?_; refine gL 8 Try.func62 _ (dm (bT.calls a0 a1_0 a2_0 t256 _ A4.out) fun nd => ?_)))
 go_ret
 exact ⟨kE, kR1 HB⟩
end Go.Proofs.Ytkkdkeogplgkfaa.PFnSelectedBoxes
