/- Each Go function here comes to what the plain function of its name says, where that says something. Made by a program of this session, over the print. -/
import Derived.Test.YtgpkkplabnliiaaPFnRangesx0
namespace Go.Proofs.Ytgpkkplabnliiaa.PFnRanges
open Go.RowKit Go.Proofs.YtgpkkplabnliiaaW.PrintWords Go.Proofs.YtgpkkplabnliiaaW.PrintLast Go.Proofs.YtgpkkplabnliiaaW.PrintMore
attribute [local go_sem] max2_int min2_int max_two min_two max_three min_three max_four min_four   -- for this text's walks alone
set_option linter.unusedVariables false
set_option linter.unusedSimpArgs false

/-- A state of type 92 at block g of W; what its slices lead to came in by w0. -/
def IsS92 (w0 W : World) (g : Nat) (f0 : List Int) (f1 : Int) (f2 : Int) : Prop := ∃ A0 c0, W.heap[g]? = some (.cells #[.slice A0 f0.length c0, .int .i64 f1, .int .u64 f2] 92 (0, 0)) ∧ w0.heap.size ≤ g ∧ Kd.C (Kd.int .u8) w0 A0 f0.length f0
theorem IsS92.grown {w0 W : World} {g : Nat} {f0 : List Int} {f1 : Int} {f2 : Int} {W1 : World} {row : Option Nat} (h : IsS92 w0 W g f0 f1 f2) (hw : W.grownBy W1 row) (hne : some g ≠ row) : IsS92 w0 W1 g f0 f1 f2 := by
 obtain ⟨A0, c0, hb, hg, hr0⟩ := h
 exact ⟨A0, c0, blk_grown hb hw hne, hg, hr0⟩
theorem IsS92.own_neN {w0 W : World} {g : Nat} {f0 : List Int} {f1 : Int} {f2 : Int} {α : Type} {d : Kd α} {e : Nat} {base : Nat} {ok : Nat → Prop} {v : Value} {xs : List α} (h : IsS92 w0 W g f0 f1 f2) (ho : Kd.N d e W base ok v xs) (ht : e ≠ 92) : some g ≠ v.ownBlock := by
 obtain ⟨A0, c0, hb, hg, hr0⟩ := h
 exact Kd.N_ne ho hb ht
theorem IsS92.fresh {w0 W : World} {g : Nat} {f0 : List Int} {f1 : Int} {f2 : Int} (h : IsS92 w0 W g f0 f1 f2) : ∀ k, W.heap.size ≤ k → k ≠ g := by
 obtain ⟨A0, c0, hb, hg, hr0⟩ := h
 exact Kd.freshB hb
theorem IsS92.kept {w0 W : World} {g : Nat} {f0 : List Int} {f1 : Int} {f2 : Int} {W1 : World} {S : Nat → Prop} (h : IsS92 w0 W g f0 f1 f2) (hk : Kept W W1 S) (hne : ¬ S g) : IsS92 w0 W1 g f0 f1 f2 := by
 obtain ⟨A0, c0, hb, hg, hr0⟩ := h
 exact ⟨A0, c0, blk_kept hb hk hne, hg, hr0⟩
theorem IsS92.below {w0 W : World} {g : Nat} {f0 : List Int} {f1 : Int} {f2 : Int} {W1 : World} (h : IsS92 w0 W g f0 f1 f2) (hw : Below W.heap.size W W1) : IsS92 w0 W1 g f0 f1 f2 := h.grown (grown_of_below hw none) (by simp)
theorem IsS92.alloc {w0 W : World} {g : Nat} {f0 : List Int} {f1 : Int} {f2 : Int} (h : IsS92 w0 W g f0 f1 f2) (o : Obj) : IsS92 w0 (W.alloc o) g f0 f1 f2 := h.below (below_alloc (Below.refl _ _) o)
theorem IsS92.drewN {w0 W : World} {g : Nat} {f0 : List Int} {f1 : Int} {f2 : Int} (h : IsS92 w0 W g f0 f1 f2) (m : Nat) : IsS92 w0 (W.drewN m) g f0 f1 f2 := h
theorem IsS92.drew {w0 W : World} {g : Nat} {f0 : List Int} {f1 : Int} {f2 : Int} (h : IsS92 w0 W g f0 f1 f2) : IsS92 w0 W.drew g f0 f1 f2 := h
theorem IsS92.at_ {w0 W : World} {g : Nat} {f0 : List Int} {f1 : Int} {f2 : Int} {w' : World} {m : Nat} (hq : W.drewN m = w') (h : IsS92 w0 W g f0 f1 f2) : IsS92 w0 w' g f0 f1 f2 := by subst hq; exact IsS92.drewN h m
theorem IsS92.apart {w0 W : World} {g : Nat} {f0 : List Int} {f1 : Int} {f2 : Int} {α : Type} {d : Kd α} {e : Nat} {base : Nat} {ok : Nat → Prop} {v : Value} {xs : List α} (h : IsS92 w0 W g f0 f1 f2) (ho : d.R e W base ok v xs) (ht : ∀ q, q ∈ e :: d.E → q ≠ 92) : d.R e W base (fun k => ok k ∧ k ≠ g) v xs := by
 obtain ⟨A0, c0, hb, hg, hr0⟩ := h
 exact Kd.R_types ho hb ht
theorem IsS92.own_ne {w0 W : World} {g : Nat} {f0 : List Int} {f1 : Int} {f2 : Int} {α : Type} {d : Kd α} {e : Nat} {base : Nat} {ok : Nat → Prop} {v : Value} {xs : List α} (h : IsS92 w0 W g f0 f1 f2) (ho : d.R e W base ok v xs) (ht : e ≠ 92) : some g ≠ v.ownBlock := by
 obtain ⟨A0, c0, hb, hg, hr0⟩ := h
 exact Kd.R_ne ho hb ht
theorem IsS92.apartQ {w0 W : World} {g : Nat} {f0 : List Int} {f1 : Int} {f2 : Int} {α : Type} {d : Kd α} {e : Nat} {base : Nat} {ok : Nat → Prop} {v : Value} {xs : List α} (h : IsS92 w0 W g f0 f1 f2) (ho : d.Q e W base ok v xs) (ht : ∀ q, q ∈ e :: d.E → q ≠ 92) : d.Q e W base (fun k => ok k ∧ k ≠ g) v xs := by
 obtain ⟨A0, c0, hb, hg, hr0⟩ := h
 exact Kd.Q_types ho hb ht
theorem IsS92.own_neQ {w0 W : World} {g : Nat} {f0 : List Int} {f1 : Int} {f2 : Int} {α : Type} {d : Kd α} {e : Nat} {base : Nat} {ok : Nat → Prop} {v : Value} {xs : List α} (h : IsS92 w0 W g f0 f1 f2) (ho : d.Q e W base ok v xs) (ht : e ≠ 92) : some g ≠ v.ownBlock := by
 obtain ⟨A0, c0, hb, hg, hr0⟩ := h
 exact Kd.Q_ne ho hb ht
theorem IsS92.apartS {w0 W : World} {g : Nat} {f0 : List Int} {f1 : Int} {f2 : Int} {α : Type} {d : Kd α} {e : Nat} {base : Nat} {ok : Nat → Prop} {v : Value} {xs : List α} (h : IsS92 w0 W g f0 f1 f2) (ho : d.S e W base ok v xs) (ht : ∀ q, q ∈ e :: d.E → q ≠ 92) : d.S e W base (fun k => ok k ∧ k ≠ g) v xs := by
 obtain ⟨A0, c0, hb, hg, hr0⟩ := h
 exact Kd.S_types ho hb ht
theorem IsS92.own_neS {w0 W : World} {g : Nat} {f0 : List Int} {f1 : Int} {f2 : Int} {α : Type} {d : Kd α} {e : Nat} {base : Nat} {ok : Nat → Prop} {v : Value} {xs : List α} (h : IsS92 w0 W g f0 f1 f2) (ho : d.S e W base ok v xs) (ht : e ≠ 92) : some g ≠ v.ownBlock := by
 obtain ⟨A0, c0, hb, hg, hr0⟩ := h
 exact Kd.S_ne ho hb ht
theorem IsS92.lt {w0 W : World} {g : Nat} {f0 : List Int} {f1 : Int} {f2 : Int} (h : IsS92 w0 W g f0 f1 f2) : g < W.heap.size := by
 obtain ⟨A0, c0, hb, hg, hr0⟩ := h
 exact blk_lt hb
theorem IsS92.ge {w0 W : World} {g : Nat} {f0 : List Int} {f1 : Int} {f2 : Int} (h : IsS92 w0 W g f0 f1 f2) : w0.heap.size ≤ g := by
 obtain ⟨A0, c0, hb, hg, hr0⟩ := h
 exact hg
theorem IsS92.ne_blk {w0 W : World} {g : Nat} {f0 : List Int} {f1 : Int} {f2 : Int} {a : Nat} {cs : Array Value} {t : TypeId} {fr : Nat × Nat} (h : IsS92 w0 W g f0 f1 f2) (hb2 : W.heap[a]? = some (.cells cs t fr)) (ht : t ≠ 92) : g ≠ a := by
 obtain ⟨A0, c0, hb, hg, hr0⟩ := h
 rintro rfl
 rw [hb] at hb2
 injection hb2 with hb2
 injection hb2 with _ ht2
 exact ht ht2.symm
theorem IsS92.far {w0 W : World} {g : Nat} {f0 : List Int} {f1 : Int} {f2 : Int} {p : Addr} (h : IsS92 w0 W g f0 f1 f2) (hne : g ≠ p.block) (u : Value) : IsS92 w0 (W.setCell p u) g f0 f1 f2 := by
 obtain ⟨A0, c0, hb, hg, hr0⟩ := h
 exact ⟨A0, c0, blk_far hb hne u, hg, hr0⟩
theorem cellS92_0 {W : World} {g : Nat} {A0 : Option Addr} {c0 : Nat} {f0 : List Int} {f1 : Int} {f2 : Int} (h : W.heap[g]? = some (.cells #[.slice A0 f0.length c0, .int .i64 f1, .int .u64 f2] 92 (0, 0))) : W.cell? ⟨g, 0, none⟩ = some (.slice A0 f0.length c0) := (blk_cell h 0).trans rfl
theorem cellS92_1 {W : World} {g : Nat} {A0 : Option Addr} {c0 : Nat} {f0 : List Int} {f1 : Int} {f2 : Int} (h : W.heap[g]? = some (.cells #[.slice A0 f0.length c0, .int .i64 f1, .int .u64 f2] 92 (0, 0))) : W.cell? ⟨g, 1, none⟩ = some (.int .i64 f1) := (blk_cell h 1).trans rfl
theorem IsS92.set_1 {w0 W : World} {g : Nat} {f0 : List Int} {f1 : Int} {f2 : Int} (h : IsS92 w0 W g f0 f1 f2) (x : Int) : IsS92 w0 (W.setCell ⟨g, 1, none⟩ (.int .i64 x)) g f0 x f2 := by
 obtain ⟨A0, c0, hb, hg, hr0⟩ := h
 exact ⟨A0, c0, by simpa using blk_set hb 1 (.int .i64 x), hg, hr0⟩
theorem cellS92_2 {W : World} {g : Nat} {A0 : Option Addr} {c0 : Nat} {f0 : List Int} {f1 : Int} {f2 : Int} (h : W.heap[g]? = some (.cells #[.slice A0 f0.length c0, .int .i64 f1, .int .u64 f2] 92 (0, 0))) : W.cell? ⟨g, 2, none⟩ = some (.int .u64 f2) := (blk_cell h 2).trans rfl
theorem IsS92.set_2 {w0 W : World} {g : Nat} {f0 : List Int} {f1 : Int} {f2 : Int} (h : IsS92 w0 W g f0 f1 f2) (x : Int) : IsS92 w0 (W.setCell ⟨g, 2, none⟩ (.int .u64 x)) g f0 f1 x := by
 obtain ⟨A0, c0, hb, hg, hr0⟩ := h
 exact ⟨A0, c0, by simpa using blk_set hb 2 (.int .u64 x), hg, hr0⟩
theorem IsS92.new (w0 W : World) (A0 : Option Addr) (c0 : Nat) (f0 : List Int) (f1 : Int) (f2 : Int) (hB : Below w0.heap.size w0 W) (hr0 : Kd.C (Kd.int .u8) w0 A0 f0.length f0) : IsS92 w0 (W.alloc (.cells #[.slice A0 f0.length c0, .int .i64 f1, .int .u64 f2] 92)) W.heap.size f0 f1 f2 := ⟨A0, c0, by simpa using heap_alloc_new W _, hB.size, hr0⟩

/-! ### spec_l00From: function 25 -/
def spec_l00From.f (l0 : List Int) : Option (List Int × Int × Int) := some (l0, 0, 0)
set_option maxHeartbeats 8000000 in
set_option maxRecDepth 100000 in
theorem spec_l00From.calls (A0 : Option Addr) (c0 : Nat) (l0 : List Int) (r1 : List Int) (r2 : Int) (r3 : Int) (w0 w : World) (hB : Below w0.heap.size w0 w) (hr0 : Kd.C (Kd.int .u8) w0 A0 l0.length l0) (hc0 : l0.length ≤ c0) (h : spec_l00From.f l0 = some (r1, r2, r3)) :
 Calls Try.prog 25 #[.slice A0 l0.length c0] w fun e w' => ∃ g_ : Nat, e = .returned (.pointer (some ⟨g_, 0, none⟩)) ∧ IsS92 w0 w' g_ r1 r2 r3 ∧ Below w0.heap.size w0 w' ∧ Below w.heap.size w w' := by
 have hu92 := Try.underlying92
 have HR0 := yD hr0
 have HC0 := yD hc0
 clear hr0 hc0
 have HBW := yD (Below.refl w.heap.size w)
 have HW0 := yD hB.size
 have HB := yD hB
 clear hB
 have H : (some (l0, 0, 0)) = some (r1, r2, r3) := h
 clear h
 simp only [Option.some.injEq, Prod.mk.injEq] at H
 obtain ⟨rfl, rfl, rfl⟩ := H
 go_enter Try.func25, Try.ntmps25
 go_wp2_with (first | ((with_reducible refine gate_dst (N := 5) rfl ?_); refine box_event ?hg (N := 5) ?hd (cs := #[.slice A0 l0.length c0, .int .i64 0, .int .u64 0]) (t := 92) ?hr ?_; (case hd => rfl); (case hg => rfl); (case hr => first | (go_simp; done) | (go_simp; rfl)); intro gb101 hg w2 hbox hb; have n0_ := yD (zC HBW.out hb); have n1_ := yD (zC (kB HB) hb); have n2_ := yD (hbox); have n3_ := yD ((by rw [hg]; exact (below_size (kR0 HBW)) : w.heap.size ≤ gb101)); have n4_ := yD ((Nat.le_trans HW0.out (by rw [hg]; exact (below_size (kR0 HBW)) : w.heap.size ≤ gb101) : w0.heap.size ≤ gb101)); clear HBW; clear HB; have HBW := n0_; have HB := n1_; have BK101 := n2_; have GW101 := n3_; have GE101 := n4_; clear n0_ n1_ n2_ n3_ n4_; clear hb hbox hg))
 go_ret
 exact ⟨_, rfl, (show IsS92 w0 _ gb101 l0 0 0 from ⟨_, _, by (with_reducible repeat (first | refine yM ?_ _ | refine yO ?_ | refine yN ?_ _)); exact BK101.out, GE101.out, HR0.out⟩), kR1 HB, kR1 HBW⟩

/-! ### spec_l00Src_next: function 90 -/
def spec_l00Src_next.f (s0_0 : List Int) (s0_1 : Int) (s0_2 : Int) : Option (Int × Int × Int) := if s0_1 < (s0_0.length : Int) then (if 0 ≤ s0_1 then (if (wrap64 (s0_1 + 1)) ≤ (s0_0.length : Int) then (some (wrap64 (rd s0_0 s0_1), wrap64 (s0_1 + 1), IntKind.u64.wrap ((IntKind.u64.wrap ((IntKind.u64.wrap (s0_2 * 6364136223846793005)) + (IntKind.u64.wrap (wrap64 (rd s0_0 s0_1))))) + 1442695040888963407))) else (some (wrap64 (Go.bits .and .u64 ((IntKind.u64.wrap ((IntKind.u64.wrap ((IntKind.u64.wrap (s0_2 * 6364136223846793005)) + (IntKind.u64.wrap (wrap64 (rd s0_0 s0_1))))) + 1442695040888963407)) / 1099511627776) 255), wrap64 (s0_1 + 1), IntKind.u64.wrap ((IntKind.u64.wrap ((IntKind.u64.wrap (s0_2 * 6364136223846793005)) + (IntKind.u64.wrap (wrap64 (rd s0_0 s0_1))))) + 1442695040888963407)))) else (none)) else (if (wrap64 (s0_1 + 1)) ≤ (s0_0.length : Int) then (some (0, wrap64 (s0_1 + 1), IntKind.u64.wrap ((IntKind.u64.wrap (IntKind.u64.wrap (s0_2 * 6364136223846793005))) + 1442695040888963407))) else (some (wrap64 (Go.bits .and .u64 ((IntKind.u64.wrap ((IntKind.u64.wrap (IntKind.u64.wrap (s0_2 * 6364136223846793005))) + 1442695040888963407)) / 1099511627776) 255), wrap64 (s0_1 + 1), IntKind.u64.wrap ((IntKind.u64.wrap (IntKind.u64.wrap (s0_2 * 6364136223846793005))) + 1442695040888963407))))
set_option maxHeartbeats 8000000 in
set_option maxRecDepth 100000 in
theorem spec_l00Src_next.calls (g : Nat) (s0_0 : List Int) (s0_1 : Int) (s0_2 : Int) (r1 : Int) (r2 : Int) (r3 : Int) (w0 w : World) (hI : IsS92 w0 w g s0_0 s0_1 s0_2) (hB : Below w0.heap.size w0 w) (h : spec_l00Src_next.f s0_0 s0_1 s0_2 = some (r1, r2, r3)) :
 Calls Try.prog 90 #[.pointer (some ⟨g, 0, none⟩)] w fun e w' => e = .returned (.int .i64 r1) ∧ IsS92 w0 w' g s0_0 r2 r3 ∧ Below w0.heap.size w0 w' ∧ KeepBut w w' g none := by
 have HI0 := yD hI
 have HK := yD (KeepBut.refl w g none)
 have HL := yD hB.size
 clear hI
 have HW0 := yD hB.size
 have HB := yD hB
 clear hB
 have H : (if s0_1 < (s0_0.length : Int) then (if 0 ≤ s0_1 then (if (wrap64 (s0_1 + 1)) ≤ (s0_0.length : Int) then (some (wrap64 (rd s0_0 s0_1), wrap64 (s0_1 + 1), IntKind.u64.wrap ((IntKind.u64.wrap ((IntKind.u64.wrap (s0_2 * 6364136223846793005)) + (IntKind.u64.wrap (wrap64 (rd s0_0 s0_1))))) + 1442695040888963407))) else (some (wrap64 (Go.bits .and .u64 ((IntKind.u64.wrap ((IntKind.u64.wrap ((IntKind.u64.wrap (s0_2 * 6364136223846793005)) + (IntKind.u64.wrap (wrap64 (rd s0_0 s0_1))))) + 1442695040888963407)) / 1099511627776) 255), wrap64 (s0_1 + 1), IntKind.u64.wrap ((IntKind.u64.wrap ((IntKind.u64.wrap (s0_2 * 6364136223846793005)) + (IntKind.u64.wrap (wrap64 (rd s0_0 s0_1))))) + 1442695040888963407)))) else (none)) else (if (wrap64 (s0_1 + 1)) ≤ (s0_0.length : Int) then (some (0, wrap64 (s0_1 + 1), IntKind.u64.wrap ((IntKind.u64.wrap (IntKind.u64.wrap (s0_2 * 6364136223846793005))) + 1442695040888963407))) else (some (wrap64 (Go.bits .and .u64 ((IntKind.u64.wrap ((IntKind.u64.wrap (IntKind.u64.wrap (s0_2 * 6364136223846793005))) + 1442695040888963407)) / 1099511627776) 255), wrap64 (s0_1 + 1), IntKind.u64.wrap ((IntKind.u64.wrap (IntKind.u64.wrap (s0_2 * 6364136223846793005))) + 1442695040888963407))))) = some (r1, r2, r3) := h
 clear h
 by_cases c2 : s0_1 < (s0_0.length : Int)
 ·
  rw [if_pos c2] at H
  have c2b0 : decide (s0_1 < (s0_0.length : Int)) = true := zR c2; clear c2
  by_cases c3 : 0 ≤ s0_1
  ·
   rw [if_pos c3] at H
   have c3b0 : decide (0 ≤ s0_1) = true := zR c3; clear c3
   by_cases c4 : (wrap64 (s0_1 + 1)) ≤ (s0_0.length : Int)
   ·
    rw [if_pos c4] at H
    have c4b0 : decide ((wrap64 (s0_1 + 1)) ≤ (s0_0.length : Int)) = true := zR c4; clear c4
    simp only [Option.some.injEq, Prod.mk.injEq] at H
    obtain ⟨rfl, rfl, rfl⟩ := H
    obtain ⟨ASz5_0, cSz5_0, HGz5, hgz5, HSz5_0⟩ := HI0.out
    have hcz5_0 := cellS92_0 HGz5
    have hcz5_1 := cellS92_1 HGz5
    have hcz5_2 := cellS92_2 HGz5
    have hfz5_1 := yR HGz5 1
    have hfz5_2 := yR HGz5 2
    clear HGz5 hgz5
    have p102 : 0 ≤ (s0_1 : Int) := zP (by assumption)
    have q102 : s0_1 < (s0_0.length : Int) := zP (by assumption)
    obtain ⟨ad102, e102, hx102_0⟩ := Kd.at_int HSz5_0 s0_1 p102 q102
    cases e102
    replace hx102_0 := pw_cell_below HB.out hx102_0
    replace p102 := eq_true p102; replace q102 := eq_true q102; go_enter Try.func90, Try.ntmps90
    go_wp2
    repeat (go_quiet (fail); try go_wp2)
    go_ret
    exact ⟨by first | rfl | (simp <;> rfl) | (simp [*] <;> rfl), kR2 HI0, kR3 HB, kR4 HK⟩
   ·
    rw [if_neg c4] at H
    have c4b0 : decide ((wrap64 (s0_1 + 1)) ≤ (s0_0.length : Int)) = false := zS c4; clear c4
    simp only [Option.some.injEq, Prod.mk.injEq] at H
    obtain ⟨rfl, rfl, rfl⟩ := H
    obtain ⟨ASz6_0, cSz6_0, HGz6, hgz6, HSz6_0⟩ := HI0.out
    have hcz6_0 := cellS92_0 HGz6
    have hcz6_1 := cellS92_1 HGz6
    have hcz6_2 := cellS92_2 HGz6
    have hfz6_1 := yR HGz6 1
    have hfz6_2 := yR HGz6 2
    clear HGz6 hgz6
    have p102 : 0 ≤ (s0_1 : Int) := zP (by assumption)
    have q102 : s0_1 < (s0_0.length : Int) := zP (by assumption)
    obtain ⟨ad102, e102, hx102_0⟩ := Kd.at_int HSz6_0 s0_1 p102 q102
    cases e102
    replace hx102_0 := pw_cell_below HB.out hx102_0
    replace p102 := eq_true p102; replace q102 := eq_true q102; go_enter Try.func90, Try.ntmps90
    go_wp2
    repeat (go_quiet (fail); try go_wp2)
    go_ret
    exact ⟨by first | rfl | (simp <;> rfl) | (simp [*] <;> rfl), kR2 HI0, kR3 HB, kR4 HK⟩
  · rw [if_neg c3] at H
    exact absurd H (by simp)
 ·
  rw [if_neg c2] at H
  have c2b0 : decide (s0_1 < (s0_0.length : Int)) = false := zS c2; clear c2
  by_cases c7 : (wrap64 (s0_1 + 1)) ≤ (s0_0.length : Int)
  ·
   rw [if_pos c7] at H
   have c7b0 : decide ((wrap64 (s0_1 + 1)) ≤ (s0_0.length : Int)) = true := zR c7; clear c7
   simp only [Option.some.injEq, Prod.mk.injEq] at H
   obtain ⟨rfl, rfl, rfl⟩ := H
   obtain ⟨ASz8_0, cSz8_0, HGz8, hgz8, HSz8_0⟩ := HI0.out
   have hcz8_0 := cellS92_0 HGz8
   have hcz8_1 := cellS92_1 HGz8
   have hcz8_2 := cellS92_2 HGz8
   have hfz8_1 := yR HGz8 1
   have hfz8_2 := yR HGz8 2
   clear HGz8 hgz8; go_enter Try.func90, Try.ntmps90
   go_wp2
   repeat (go_quiet (fail); try go_wp2)
   go_ret
   exact ⟨by first | rfl | (simp <;> rfl) | (simp [*] <;> rfl), kR2 HI0, kR3 HB, kR4 HK⟩
  ·
   rw [if_neg c7] at H
   have c7b0 : decide ((wrap64 (s0_1 + 1)) ≤ (s0_0.length : Int)) = false := zS c7; clear c7
   simp only [Option.some.injEq, Prod.mk.injEq] at H
   obtain ⟨rfl, rfl, rfl⟩ := H
   obtain ⟨ASz9_0, cSz9_0, HGz9, hgz9, HSz9_0⟩ := HI0.out
   have hcz9_0 := cellS92_0 HGz9
   have hcz9_1 := cellS92_1 HGz9
   have hcz9_2 := cellS92_2 HGz9
   have hfz9_1 := yR HGz9 1
   have hfz9_2 := yR HGz9 2
   clear HGz9 hgz9; go_enter Try.func90, Try.ntmps90
   go_wp2
   repeat (go_quiet (fail); try go_wp2)
   go_ret
   exact ⟨by first | rfl | (simp <;> rfl) | (simp [*] <;> rfl), kR2 HI0, kR3 HB, kR4 HK⟩

/-! ### spec_l00Src_pick: function 58 -/
def spec_l00Src_pick.f (s0_0 : List Int) (s0_1 : Int) (s0_2 : Int) (a1 : Int) : Option (Int × Int × Int) := if a1 ≤ 1 then (some (0, s0_1, s0_2)) else ((spec_l00Src_next.f s0_0 s0_1 s0_2).bind fun bt103 => (if a1 > 200 then ((spec_l00Src_next.f s0_0 bt103.2.1 bt103.2.2).bind fun bt106 => (if a1 = 0 then (none) else (some (Int.tmod (wrap64 ((wrap64 (bt103.1 * 256)) + bt106.1)) a1, bt106.2.1, bt106.2.2)))) else (if a1 = 0 then (none) else (some (Int.tmod bt103.1 a1, bt103.2.1, bt103.2.2)))))
set_option maxHeartbeats 8000000 in
set_option maxRecDepth 100000 in
theorem spec_l00Src_pick.calls (g : Nat) (s0_0 : List Int) (s0_1 : Int) (s0_2 : Int) (a1 : Int) (r1 : Int) (r2 : Int) (r3 : Int) (w0 w : World) (hI : IsS92 w0 w g s0_0 s0_1 s0_2) (hB : Below w0.heap.size w0 w) (h : spec_l00Src_pick.f s0_0 s0_1 s0_2 a1 = some (r1, r2, r3)) :
 Calls Try.prog 58 #[.pointer (some ⟨g, 0, none⟩), .int .i64 a1] w fun e w' => e = .returned (.int .i64 r1) ∧ IsS92 w0 w' g s0_0 r2 r3 ∧ Below w0.heap.size w0 w' ∧ KeepBut w w' g none := by
 have HI0 := yD hI
 have HK := yD (KeepBut.refl w g none)
 have HL := yD hB.size
 clear hI
 have HW0 := yD hB.size
 have HB := yD hB
 clear hB
 have H : (if a1 ≤ 1 then (some (0, s0_1, s0_2)) else ((spec_l00Src_next.f s0_0 s0_1 s0_2).bind fun bt103 => (if a1 > 200 then ((spec_l00Src_next.f s0_0 bt103.2.1 bt103.2.2).bind fun bt106 => (if a1 = 0 then (none) else (some (Int.tmod (wrap64 ((wrap64 (bt103.1 * 256)) + bt106.1)) a1, bt106.2.1, bt106.2.2)))) else (if a1 = 0 then (none) else (some (Int.tmod bt103.1 a1, bt103.2.1, bt103.2.2)))))) = some (r1, r2, r3) := h
 clear h
 by_cases c3 : a1 ≤ 1
 ·
  rw [if_pos c3] at H
  have c3b0 : decide (a1 ≤ 1) = true := zR c3; clear c3
  simp only [Option.some.injEq, Prod.mk.injEq] at H
  obtain ⟨rfl, rfl, rfl⟩ := H
  go_enter Try.func58, Try.ntmps58
  go_wp2
  go_ret
  exact ⟨by first | rfl | (simp <;> rfl) | (simp [*] <;> rfl), kR2 HI0, kR3 HB, kR4 HK⟩
 ·
  rw [if_neg c3] at H
  have c3b0 : decide (a1 ≤ 1) = false := zS c3; clear c3
  obtain ⟨⟨t103, t104, t105⟩, A40, H⟩ := zW_ H
  replace H : (if a1 > 200 then ((spec_l00Src_next.f s0_0 t104 t105).bind fun bt106 => (if a1 = 0 then (none) else (some (Int.tmod (wrap64 ((wrap64 (t103 * 256)) + bt106.1)) a1, bt106.2.1, bt106.2.2)))) else (if a1 = 0 then (none) else (some (Int.tmod t103 a1, t104, t105)))) = some (r1, r2, r3) := H
  have A4 := yD A40
  clear A40
  by_cases c5 : a1 > 200
  ·
   rw [if_pos c5] at H
   have c5b0 : decide (200 < a1) = true := zR c5; clear c5
   obtain ⟨⟨t106, t107, t108⟩, A60, H⟩ := zW_ H
   replace H : (if a1 = 0 then (none) else (some (Int.tmod (wrap64 ((wrap64 (t103 * 256)) + t106)) a1, t107, t108))) = some (r1, r2, r3) := H
   have A6 := yD A60
   clear A60
   by_cases c7 : a1 = 0
   · rw [if_pos c7] at H
     exact absurd H (by simp)
   ·
    rw [if_neg c7] at H
    have c7b0 : (a1 == 0) = false := beq_eq_false_iff_ne.mpr c7
    have c7b1 : (a1 != 0) = true := bne_iff_ne.mpr c7
    simp only [Option.some.injEq, Prod.mk.injEq] at H
    obtain ⟨rfl, rfl, rfl⟩ := H
    go_enter Try.func58, Try.ntmps58
    go_wp2_with (first | ((with_reducible refine gate_callee (f := 90) rfl ?_); refine goesL_ (some 9) rfl rfl Try.func90 (by kernel_rfl) rfl #[.pointer (some ⟨g, 0, none⟩)] rfl (by (try simp only [zK, zL, zM]); first | done | rfl | (simp only [zN, zO]; rfl)) ?_; (with_reducible refine (spec_l00Src_next.calls g s0_0 s0_1 s0_2 t103 t104 t105 w0 _ ?side1 ?side2 A4.out).mono ?_); (case side1 => exact kR2 HI0); (case side2 => exact kR3 HB); rintro e w8 ⟨rfl, hi, hb, hk⟩; refine ⟨_, rfl, ?_⟩; have n0_ := yD (KeepBut.trans (kR4 HK) hk (.inl rfl)); have n1_ := yD (hb); have n2_ := yD (hi); clear HK; clear HB; clear HI0; have HK := n0_; have HB := n1_; have HI0 := n2_; clear n0_ n1_ n2_; (try clear hb); (try clear hb2); (try clear hk); (try clear hi)) | ((with_reducible refine gate_callee (f := 90) rfl ?_); refine goesL_ (some 15) rfl rfl Try.func90 (by kernel_rfl) rfl #[.pointer (some ⟨g, 0, none⟩)] rfl (by (try simp only [zK, zL, zM]); first | done | rfl | (simp only [zN, zO]; rfl)) ?_; (with_reducible refine (spec_l00Src_next.calls g s0_0 t104 t105 t106 t107 t108 w0 _ ?side1 ?side2 A6.out).mono ?_); (case side1 => exact kR2 HI0); (case side2 => exact kR3 HB); rintro e w9 ⟨rfl, hi, hb, hk⟩; refine ⟨_, rfl, ?_⟩; have n0_ := yD (KeepBut.trans (kR4 HK) hk (.inl rfl)); have n1_ := yD (hb); have n2_ := yD (hi); clear HK; clear HB; clear HI0; have HK := n0_; have HB := n1_; have HI0 := n2_; clear n0_ n1_ n2_; (try clear hb); (try clear hb2); (try clear hk); (try clear hi)))
    go_ret
    exact ⟨by first | rfl | (simp <;> rfl) | (simp [*] <;> rfl), kR2 HI0, kR3 HB, kR4 HK⟩
  ·
   rw [if_neg c5] at H
   have c5b0 : decide (200 < a1) = false := zS c5; clear c5
   by_cases c10 : a1 = 0
   · rw [if_pos c10] at H
     exact absurd H (by simp)
   ·
    rw [if_neg c10] at H
    have c10b0 : (a1 == 0) = false := beq_eq_false_iff_ne.mpr c10
    have c10b1 : (a1 != 0) = true := bne_iff_ne.mpr c10
    simp only [Option.some.injEq, Prod.mk.injEq] at H
    obtain ⟨rfl, rfl, rfl⟩ := H
    go_enter Try.func58, Try.ntmps58
    go_wp2_with (first | ((with_reducible refine gate_callee (f := 90) rfl ?_); refine goesL_ (some 9) rfl rfl Try.func90 (by kernel_rfl) rfl #[.pointer (some ⟨g, 0, none⟩)] rfl (by (try simp only [zK, zL, zM]); first | done | rfl | (simp only [zN, zO]; rfl)) ?_; (with_reducible refine (spec_l00Src_next.calls g s0_0 s0_1 s0_2 t103 t104 t105 w0 _ ?side1 ?side2 A4.out).mono ?_); (case side1 => exact kR2 HI0); (case side2 => exact kR3 HB); rintro e w11 ⟨rfl, hi, hb, hk⟩; refine ⟨_, rfl, ?_⟩; have n0_ := yD (KeepBut.trans (kR4 HK) hk (.inl rfl)); have n1_ := yD (hb); have n2_ := yD (hi); clear HK; clear HB; clear HI0; have HK := n0_; have HB := n1_; have HI0 := n2_; clear n0_ n1_ n2_; (try clear hb); (try clear hb2); (try clear hk); (try clear hi)))
    go_ret
    exact ⟨by first | rfl | (simp <;> rfl) | (simp [*] <;> rfl), kR2 HI0, kR3 HB, kR4 HK⟩

/-! ### spec_l00Src_among: function 60 -/
def spec_l00Src_among.f (s0_0 : List Int) (s0_1 : Int) (s0_2 : Int) (l1 : List Int) : Option (Int × Int × Int) := (spec_l00Src_pick.f s0_0 s0_1 s0_2 (l1.length : Int)).bind fun bt109 => (if 0 ≤ bt109.1 then (if bt109.1 < (l1.length : Int) then (some (rd l1 bt109.1, bt109.2.1, bt109.2.2)) else (none)) else (none))
set_option maxHeartbeats 8000000 in
set_option maxRecDepth 100000 in
theorem spec_l00Src_among.calls (g : Nat) (s0_0 : List Int) (s0_1 : Int) (s0_2 : Int) (A1 : Option Addr) (c1 : Nat) (l1 : List Int) (r1 : Int) (r2 : Int) (r3 : Int) (w0 w : World) (hI : IsS92 w0 w g s0_0 s0_1 s0_2) (hB : Below w0.heap.size w0 w) (hr1 : Kd.C (Kd.int .i64) w A1 l1.length l1) (hc1 : l1.length ≤ c1) (hf1 : ∀ ad, A1 = some ad → 0 < l1.length → ad.block ≠ g) (h : spec_l00Src_among.f s0_0 s0_1 s0_2 l1 = some (r1, r2, r3)) :
 Calls Try.prog 60 #[.pointer (some ⟨g, 0, none⟩), .slice A1 l1.length c1] w fun e w' => e = .returned (.int .i64 r1) ∧ IsS92 w0 w' g s0_0 r2 r3 ∧ Below w0.heap.size w0 w' ∧ KeepBut w w' g none := by
 have HR1 := yD hr1
 have HC1 := yD hc1
 clear hr1 hc1
 have HI0 := yD hI
 have HK := yD (KeepBut.refl w g none)
 have HL := yD hB.size
 clear hI
 have HW0 := yD hB.size
 have HB := yD hB
 clear hB
 have H : ((spec_l00Src_pick.f s0_0 s0_1 s0_2 (l1.length : Int)).bind fun bt109 => (if 0 ≤ bt109.1 then (if bt109.1 < (l1.length : Int) then (some (rd l1 bt109.1, bt109.2.1, bt109.2.2)) else (none)) else (none))) = some (r1, r2, r3) := h
 clear h
 obtain ⟨⟨t109, t110, t111⟩, A30, H⟩ := zW_ H
 replace H : (if 0 ≤ t109 then (if t109 < (l1.length : Int) then (some (rd l1 t109, t110, t111)) else (none)) else (none)) = some (r1, r2, r3) := H
 have A3 := yD A30
 clear A30
 by_cases c4 : 0 ≤ t109
 ·
  rw [if_pos c4] at H
  have c4b0 : decide (0 ≤ t109) = true := zR c4; clear c4
  by_cases c5 : t109 < (l1.length : Int)
  ·
   rw [if_pos c5] at H
   have c5b0 : decide (t109 < (l1.length : Int)) = true := zR c5; clear c5
   simp only [Option.some.injEq, Prod.mk.injEq] at H
   obtain ⟨rfl, rfl, rfl⟩ := H
   go_enter Try.func60, Try.ntmps60
   go_wp2_with (first | ((with_reducible refine gate_callee (f := 58) rfl ?_); refine goesL_ (some 9) rfl rfl Try.func58 (by kernel_rfl) rfl #[.pointer (some ⟨g, 0, none⟩), .int .i64 (l1.length : Int)] rfl (by (try simp only [zK, zL, zM]); first | done | rfl | (simp only [zN, zO]; rfl)) ?_; (with_reducible refine (spec_l00Src_pick.calls g s0_0 s0_1 s0_2 (l1.length : Int) t109 t110 t111 w0 _ ?side1 ?side2 A3.out).mono ?_); (case side1 => exact kR2 HI0); (case side2 => exact kR3 HB); rintro e w6 ⟨rfl, hi, hb, hk⟩; refine ⟨_, rfl, ?_⟩; have n0_ := yD (KeepBut.trans (kR4 HK) hk (.inl rfl)); have n1_ := yD (hb); have n2_ := yD (hi); clear HK; clear HB; clear HI0; have HK := n0_; have HB := n1_; have HI0 := n2_; clear n0_ n1_ n2_; (try clear hb); (try clear hb2); (try clear hk); (try clear hi); have p112 : 0 ≤ (t109 : Int) := zP (by assumption); have q112 : t109 < (l1.length : Int) := zP (by assumption); obtain ⟨ad112, e112, hx112_0⟩ := Kd.at_int HR1.out t109 p112 q112; cases e112; replace hx112_0 := keep_cell HK.out hx112_0 (by first | (rw [add_block]; exact hf1 _ rfl (by omega)) | exact hf1 _ rfl (by omega) | exact hf1 ad112 rfl (by omega)); replace p112 := eq_true p112; replace q112 := eq_true q112))
   go_ret
   exact ⟨by first | rfl | (simp <;> rfl) | (simp [*] <;> rfl), kR2 HI0, kR3 HB, kR4 HK⟩
  · rw [if_neg c5] at H
    exact absurd H (by simp)
 · rw [if_neg c4] at H
   exact absurd H (by simp)

/-! ### spec_l00Src_one: function 57 -/
def spec_l00Src_one.f (s0_0 : List Int) (s0_1 : Int) (s0_2 : Int) (a1 : Int) : Option (Bool × Int × Int) := (spec_l00Src_pick.f s0_0 s0_1 s0_2 a1).bind fun bt113 => (some ((bt113.1 == 0), bt113.2.1, bt113.2.2))
set_option maxHeartbeats 8000000 in
set_option maxRecDepth 100000 in
theorem spec_l00Src_one.calls (g : Nat) (s0_0 : List Int) (s0_1 : Int) (s0_2 : Int) (a1 : Int) (r1 : Bool) (r2 : Int) (r3 : Int) (w0 w : World) (hI : IsS92 w0 w g s0_0 s0_1 s0_2) (hB : Below w0.heap.size w0 w) (h : spec_l00Src_one.f s0_0 s0_1 s0_2 a1 = some (r1, r2, r3)) :
 Calls Try.prog 57 #[.pointer (some ⟨g, 0, none⟩), .int .i64 a1] w fun e w' => e = .returned (.bool r1) ∧ IsS92 w0 w' g s0_0 r2 r3 ∧ Below w0.heap.size w0 w' ∧ KeepBut w w' g none := by
 have HI0 := yD hI
 have HK := yD (KeepBut.refl w g none)
 have HL := yD hB.size
 clear hI
 have HW0 := yD hB.size
 have HB := yD hB
 clear hB
 have H : ((spec_l00Src_pick.f s0_0 s0_1 s0_2 a1).bind fun bt113 => (some ((bt113.1 == 0), bt113.2.1, bt113.2.2))) = some (r1, r2, r3) := h
 clear h
 obtain ⟨⟨t113, t114, t115⟩, A30, H⟩ := zW_ H
 replace H : (some ((t113 == 0), t114, t115)) = some (r1, r2, r3) := H
 have A3 := yD A30
 clear A30
 simp only [Option.some.injEq, Prod.mk.injEq] at H
 obtain ⟨rfl, rfl, rfl⟩ := H
 go_enter Try.func57, Try.ntmps57
 go_wp2_with (first | ((with_reducible refine gate_callee (f := 58) rfl ?_); refine goesL_ (some 7) rfl rfl Try.func58 (by kernel_rfl) rfl #[.pointer (some ⟨g, 0, none⟩), .int .i64 a1] rfl (by (try simp only [zK, zL, zM]); first | done | rfl | (simp only [zN, zO]; rfl)) ?_; (with_reducible refine (spec_l00Src_pick.calls g s0_0 s0_1 s0_2 a1 t113 t114 t115 w0 _ ?side1 ?side2 A3.out).mono ?_); (case side1 => exact kR2 HI0); (case side2 => exact kR3 HB); rintro e w4 ⟨rfl, hi, hb, hk⟩; refine ⟨_, rfl, ?_⟩; have n0_ := yD (KeepBut.trans (kR4 HK) hk (.inl rfl)); have n1_ := yD (hb); have n2_ := yD (hi); clear HK; clear HB; clear HI0; have HK := n0_; have HB := n1_; have HI0 := n2_; clear n0_ n1_ n2_; (try clear hb); (try clear hb2); (try clear hk); (try clear hi)))
 go_ret
 exact ⟨by first | rfl | (simp <;> rfl) | (simp [*] <;> rfl), kR2 HI0, kR3 HB, kR4 HK⟩

/-! ### spec_l05Draw: function 61 -/
def spec_l05Draw.l0 : Nat → Int → List Int → List Int → Int → Int → Option (List Int × Int × Int)
 | 0, _, _, _, _, _ => none
 | k + 1, x1, x5, x1000, x1001, x1002 => if x1 > 0 then ((spec_l00Src_pick.f x1000 x1001 x1002 6).bind fun bt119 => ((spec_l00Src_one.f x1000 bt119.2.1 bt119.2.2 8).bind fun bt122 => (if bt122.1 = true then ((spec_l00Src_pick.f x1000 bt122.2.1 bt122.2.2 9).bind fun bt125 => (if x5.length < 17592186044416 then (spec_l05Draw.l0 k (wrap64 (x1 - 1)) (x5 ++ [bt125.1]) x1000 bt125.2.1 bt125.2.2) else (none))) else (if x5.length < 17592186044416 then (spec_l05Draw.l0 k (wrap64 (x1 - 1)) (x5 ++ [wrap64 (1 + bt119.1)]) x1000 bt122.2.1 bt122.2.2) else (none))))) else (if (x5.length : Int) = 1 then ((spec_l00Src_one.f x1000 x1001 x1002 6).bind fun bt134 => (if bt134.1 = true then ((spec_l00Src_among.f x1000 bt134.2.1 bt134.2.2 (([40, 39, 17] : List Int))).bind fun bt140 => (if 0 < (x5.length : Int) then (some ((x5.set (0 : Int).toNat bt140.1), bt140.2.1, bt140.2.2)) else (none))) else (some (x5, bt134.2.1, bt134.2.2)))) else (some (x5, x1001, x1002)))
def spec_l05Draw.f (k : Nat) (s0_0 : List Int) (s0_1 : Int) (s0_2 : Int) (a1 : Int) : Option (List Int × Int × Int) := spec_l05Draw.l0 k a1 (([] : List Int)) s0_0 s0_1 s0_2
theorem spec_l05Draw.mono_l : ∀ k, (∀ y0 y1 y2 y3 y4, LeO (spec_l05Draw.l0 k y0 y1 y2 y3 y4) (spec_l05Draw.l0 (k + 1) y0 y1 y2 y3 y4))
 | 0 => fun _ _ _ _ _ r h => by simp [spec_l05Draw.l0] at h
 | k + 1 => by
  have ih0 := spec_l05Draw.mono_l k
  ·
   intro y0 y1 y2 y3 y4
   unfold spec_l05Draw.l0
   repeat' first
   | (with_reducible exact ih0 _ _ _ _ _)
   | (with_reducible exact LeO.refl _)
   | (with_reducible exact LeO.none _)
   | (with_reducible refine LeO.ite ?_ ?_)
   | (with_reducible refine LeO.bind ?_ (fun _ => ?_))
   | exact ih0 _ _ _ _ _
   | exact LeO.none _
   | refine LeO.ite ?_ ?_
   | refine LeO.bind ?_ (fun _ => ?_)
theorem spec_l05Draw.mono : ∀ a0 a1 a2 a3 k, LeO (spec_l05Draw.f k a0 a1 a2 a3) (spec_l05Draw.f (k + 1) a0 a1 a2 a3) := by
 intro a0 a1 a2 a3 k
 have ih0 := spec_l05Draw.mono_l k
 unfold spec_l05Draw.f
 repeat' first
  | (with_reducible exact ih0 _ _ _ _ _)
  | (with_reducible exact LeO.refl _)
  | (with_reducible exact LeO.none _)
  | (with_reducible refine LeO.ite ?_ ?_)
  | (with_reducible refine LeO.bind ?_ (fun _ => ?_))
  | exact ih0 _ _ _ _ _
  | exact LeO.none _
  | refine LeO.ite ?_ ?_
  | refine LeO.bind ?_ (fun _ => ?_)
set_option maxHeartbeats 8000000 in
set_option maxRecDepth 100000 in
theorem spec_l05Draw.calls (k : Nat) (g : Nat) (s0_0 : List Int) (s0_1 : Int) (s0_2 : Int) (a1 : Int) (r1 : List Int) (r2 : Int) (r3 : Int) (w0 w : World) (hI : IsS92 w0 w g s0_0 s0_1 s0_2) (hB : Below w0.heap.size w0 w) (h : spec_l05Draw.f k s0_0 s0_1 s0_2 a1 = some (r1, r2, r3)) :
 Calls Try.prog 61 #[.pointer (some ⟨g, 0, none⟩), .int .i64 a1] w fun e w' => ∃ v0_ : Value, e = .returned (v0_) ∧ Kd.R (Kd.int .i64) 2 w' w.heap.size (fun _ => True) v0_ r1 ∧ IsS92 w0 w' g s0_0 r2 r3 ∧ Below w0.heap.size w0 w' ∧ KeepBut w w' g none := by
 have HI0 := yD hI
 have HK := yD (KeepBut.refl w g none)
 have HL := yD hB.size
 clear hI
 have HW0 := yD hB.size
 have HB := yD hB
 clear hB
 have H : (spec_l05Draw.l0 k a1 (([] : List Int)) s0_0 s0_1 s0_2) = some (r1, r2, r3) := h
 clear h
 obtain ⟨y116, hy116⟩ : ∃ y_ : List Int, y_ = (([] : List Int)) := ⟨_, rfl⟩
 replace H : (spec_l05Draw.l0 k a1 y116 s0_0 s0_1 s0_2) = some (r1, r2, r3) := by first | (rw [hy116]; with_reducible exact H) | (have H2_ := (Option.bind_some _ _).symm.trans H; rw [hy116]; with_reducible exact H2_) | (have H2_ := (Option.bind_some _ _).symm.trans H; with_reducible exact H2_) | with_reducible exact H | (rw [hy116]; exact H) | exact H
 have Ny116 := yD hy116
 clear hy116
 have H' := yD H
 clear H; go_enter Try.func61, Try.ntmps61
 go_wp2_with (first | ((with_reducible refine gate_dst (N := 7) rfl ?_); refine Kd.R_lit (Kd.int .i64) _ 2 ?hg (N := 7) ?hd (xs := ([] : List Int)) (inner := []) (ok := fun _ => True) (okp := fun _ => True) ?hr ?hp (fun _ hk => hk) trivial (Below.refl _ _) (Nat.le_refl _) (by simp) ?_; (case hd => rfl); (case hg => rfl); (case hr => first | (go_simp; done) | (go_simp; rfl)); (case hp => exact (Reps.none _ _)); intro v117 w3 ho4 hb hg_ hnew_; clear hg_ hnew_; (first | rw [← Ny116.out] at ho4 | (simp only [Int.reduceToNat] at ho4; rw [← Ny116.out] at ho4)); have n0_ := yD (yZ ho4 (keep_size (w := w) (g := g) (row := none) (kR4 HK))); have n1_ := yD (IsS92.below (kR2 HI0) hb); have n2_ := yD (KeepBut.trans (kR4 HK) (KeepBut.of_below hb g none) (.inl rfl)); have n3_ := yD (zC (kR3 HB) hb); clear HI0; clear HK; clear HB; have HO118 := n0_; have HI0 := n1_; have HK := n2_; have HB := n3_; clear n0_ n1_ n2_ n3_; clear hb ho4))
 go_loopg [1, 5] k (fun kq v1 v5 w' => ∃ (x1_1 : Int) (x5_1 : List Int) (x1001_1 : Int) (x1002_1 : Int), v1 = .int .i64 x1_1 ∧ Aside0 (spec_l05Draw.l0 kq x1_1 x5_1 s0_0 x1001_1 x1002_1 = some (r1, r2, r3)) ∧ Aside0 (kq ≤ k) ∧ Aside0 (Kd.R (Kd.int .i64) 2 w' w.heap.size (fun _ => True) v5 x5_1) ∧ Aside0 (IsS92 w0 w' g s0_0 x1001_1 x1002_1) ∧ Aside0 (KeepBut w w' g none) ∧ Aside0 (Below w0.heap.size w0 w'))
 case atStart => exact ⟨(a1), (y116), (s0_1), (s0_2), (by first | rfl | (simp; done) | (simp [*]; done)), H', ⟨Nat.le_refl _⟩, ⟨by (with_reducible repeat (first | apply yA | apply yB | apply yC)); exact HO118.out⟩, ⟨kR2 HI0⟩, ⟨kR4 HK⟩, ⟨kR3 HB⟩⟩
 case round =>
  clear H'
  try clear p2
  obtain ⟨x1_1, x5_1, x1001_1, x1002_1, rfl, HA, HK1, HO_5, HI0, HK, HB⟩ := hrel
  cases gk with
  | zero => exact absurd HA.out (by simp [spec_l05Draw.l0])
  | succ k1 =>
   have H := HA.out; clear HA
   simp only [spec_l05Draw.l0] at H
   by_cases c5 : x1_1 > 0
   ·
    rw [if_pos c5] at H
    have c5b0 : decide (0 < x1_1) = true := zR c5; clear c5
    obtain ⟨⟨t119, t120, t121⟩, A60, H⟩ := zW_ H
    replace H : ((spec_l00Src_one.f s0_0 t120 t121 8).bind fun bt122 => (if bt122.1 = true then ((spec_l00Src_pick.f s0_0 bt122.2.1 bt122.2.2 9).bind fun bt125 => (if x5_1.length < 17592186044416 then (spec_l05Draw.l0 k1 (wrap64 (x1_1 - 1)) (x5_1 ++ [bt125.1]) s0_0 bt125.2.1 bt125.2.2) else (none))) else (if x5_1.length < 17592186044416 then (spec_l05Draw.l0 k1 (wrap64 (x1_1 - 1)) (x5_1 ++ [wrap64 (1 + t119)]) s0_0 bt122.2.1 bt122.2.2) else (none)))) = some (r1, r2, r3) := H
    have A6 := yD A60
    clear A60
    obtain ⟨⟨t122, t123, t124⟩, A70, H⟩ := zW_ H
    replace H : (if t122 = true then ((spec_l00Src_pick.f s0_0 t123 t124 9).bind fun bt125 => (if x5_1.length < 17592186044416 then (spec_l05Draw.l0 k1 (wrap64 (x1_1 - 1)) (x5_1 ++ [bt125.1]) s0_0 bt125.2.1 bt125.2.2) else (none))) else (if x5_1.length < 17592186044416 then (spec_l05Draw.l0 k1 (wrap64 (x1_1 - 1)) (x5_1 ++ [wrap64 (1 + t119)]) s0_0 t123 t124) else (none))) = some (r1, r2, r3) := H
    have A7 := yD A70
    clear A70
    by_cases c8 : t122 = true
    ·
     subst c8
     have H1 : ((spec_l00Src_pick.f s0_0 t123 t124 9).bind fun bt125 => (if x5_1.length < 17592186044416 then (spec_l05Draw.l0 k1 (wrap64 (x1_1 - 1)) (x5_1 ++ [bt125.1]) s0_0 bt125.2.1 bt125.2.2) else (none))) = some (r1, r2, r3) := by rw [if_pos rfl] at H; exact H
     clear H; have H := H1; clear H1
     obtain ⟨⟨t125, t126, t127⟩, A90, H⟩ := zW_ H
     replace H : (if x5_1.length < 17592186044416 then (spec_l05Draw.l0 k1 (wrap64 (x1_1 - 1)) (x5_1 ++ [t125]) s0_0 t126 t127) else (none)) = some (r1, r2, r3) := H
     have A9 := yD A90
     clear A90
     by_cases c10 : x5_1.length < 17592186044416
     ·
      rw [if_pos c10] at H
      have LMc10 := yD c10
      clear c10
      obtain ⟨y128, hy128⟩ : ∃ y_ : List Int, y_ = (x5_1 ++ [t125]) := ⟨_, rfl⟩
      replace H : (spec_l05Draw.l0 k1 (wrap64 (x1_1 - 1)) y128 s0_0 t126 t127) = some (r1, r2, r3) := by first | (rw [hy128]; with_reducible exact H) | (have H2_ := (Option.bind_some _ _).symm.trans H; rw [hy128]; with_reducible exact H2_) | (have H2_ := (Option.bind_some _ _).symm.trans H; with_reducible exact H2_) | with_reducible exact H | (rw [hy128]; exact H) | exact H
      have Ny128 := yD hy128
      clear hy128
      have H' := yD H
      clear H
      go_wp2_with (first | ((with_reducible refine gate_callee (f := 58) rfl ?_); refine goesL_ (some 13) rfl rfl Try.func58 (by kernel_rfl) rfl #[.pointer (some ⟨g, 0, none⟩), .int .i64 6] rfl (by (try simp only [zK, zL, zM]); first | done | rfl | (simp only [zN, zO]; rfl)) ?_; (with_reducible refine (spec_l00Src_pick.calls g s0_0 x1001_1 x1002_1 6 t119 t120 t121 w0 _ ?side1 ?side2 A6.out).mono ?_); (case side1 => exact kR2 HI0); (case side2 => exact kR3 HB); rintro e w11 ⟨rfl, hi, hb, hk⟩; refine ⟨_, rfl, ?_⟩; have n0_ := yD (zF (Kd.R_keep (IsS92.apart (show IsS92 w0 _ g s0_0 x1001_1 x1002_1 from kR2 HI0) (kA HO_5) (by decide)) hk (fun _ h => h.2)) (fun _ h => h.1)); have n1_ := yD (KeepBut.trans (kR4 HK) hk (.inl rfl)); have n2_ := yD (hb); have n3_ := yD (hi); clear HO_5; clear HK; clear HB; clear HI0; have HO_5 := n0_; have HK := n1_; have HB := n2_; have HI0 := n3_; clear n0_ n1_ n2_ n3_; (try clear hb); (try clear hb2); (try clear hk); (try clear hi)) | ((with_reducible refine gate_callee (f := 57) rfl ?_); refine goesL_ (some 16) rfl rfl Try.func57 (by kernel_rfl) rfl #[.pointer (some ⟨g, 0, none⟩), .int .i64 8] rfl (by (try simp only [zK, zL, zM]); first | done | rfl | (simp only [zN, zO]; rfl)) ?_; (with_reducible refine (spec_l00Src_one.calls g s0_0 t120 t121 8 true t123 t124 w0 _ ?side1 ?side2 A7.out).mono ?_); (case side1 => exact kR2 HI0); (case side2 => exact kR3 HB); rintro e w12 ⟨rfl, hi, hb, hk⟩; refine ⟨_, rfl, ?_⟩; have n0_ := yD (zF (Kd.R_keep (IsS92.apart (show IsS92 w0 _ g s0_0 t120 t121 from kR2 HI0) (kA HO_5) (by decide)) hk (fun _ h => h.2)) (fun _ h => h.1)); have n1_ := yD (KeepBut.trans (kR4 HK) hk (.inl rfl)); have n2_ := yD (hb); have n3_ := yD (hi); clear HO_5; clear HK; clear HB; clear HI0; have HO_5 := n0_; have HK := n1_; have HB := n2_; have HI0 := n3_; clear n0_ n1_ n2_ n3_; (try clear hb); (try clear hb2); (try clear hk); (try clear hi)) | ((with_reducible refine gate_callee (f := 58) rfl ?_); refine goesL_ (some 18) rfl rfl Try.func58 (by kernel_rfl) rfl #[.pointer (some ⟨g, 0, none⟩), .int .i64 9] rfl (by (try simp only [zK, zL, zM]); first | done | rfl | (simp only [zN, zO]; rfl)) ?_; (with_reducible refine (spec_l00Src_pick.calls g s0_0 t123 t124 9 t125 t126 t127 w0 _ ?side1 ?side2 A9.out).mono ?_); (case side1 => exact kR2 HI0); (case side2 => exact kR3 HB); rintro e w13 ⟨rfl, hi, hb, hk⟩; refine ⟨_, rfl, ?_⟩; have n0_ := yD (zF (Kd.R_keep (IsS92.apart (show IsS92 w0 _ g s0_0 t123 t124 from kR2 HI0) (kA HO_5) (by decide)) hk (fun _ h => h.2)) (fun _ h => h.1)); have n1_ := yD (KeepBut.trans (kR4 HK) hk (.inl rfl)); have n2_ := yD (hb); have n3_ := yD (hi); clear HO_5; clear HK; clear HB; clear HI0; have HO_5 := n0_; have HK := n1_; have HB := n2_; have HI0 := n3_; clear n0_ n1_ n2_ n3_; (try clear hb); (try clear hb2); (try clear hk); (try clear hi)) | ((with_reducible refine gate_builtin (b := .append) (xs := #[.tmp 19, .tmp 21]) rfl ?_); at_builtin; refine Kd.R_append (Kd.int .i64) w.heap.size rfl (.tmp 19) (.tmp 21) 23 2 (.int .i64 0) 8 rfl Try.underlying23 info2 rfl (by decide) (by omega) u5 x5_1 t125 [.int .i64 t125] (fun _ => True) (fun _ => False) rfl rfl ?aP (fun _ hk => hk.elim) ?aF ?aO (Below.refl _ _) ?aS ?aL ?_; (case aP => exact rfl); (case aF => exact (fun _ _ => trivial)); (case aO => exact (kA HO_5)); (case aS => exact (keep_size (w := w) (g := g) (row := none) (kR4 HK))); (case aL => have := LMc10.out; omega); intro v129 w14 ho hb hg hat; rw [← Ny128.out] at ho; have n0_ := yD (IsS92.grown (kR2 HI0) hg (IsS92.own_ne HI0.out HO_5.out (by decide))); have n1_ := yD (below_weaken (kR3 HB) HL.out hb); have n2_ := yD (KeepBut.trans (kR4 HK) (KeepBut.of_grown hg g) (Kd.R_base2 HO_5.out)); have n3_ := yD (ho); clear HI0; clear HB; clear HK; clear HO_5; have HI0 := n0_; have HB := n1_; have HK := n2_; have HO130 := n3_; clear n0_ n1_ n2_ n3_; clear ho hb hg hat))
      go_roundg k1
      case measure => have := HK1.out; omega
      case rel => exact ⟨(wrap64 (x1_1 - 1)), (y128), (t126), (t127), (by first | rfl | (simp; done) | (simp [*]; done)), H', ⟨by have := HK1.out; omega⟩, ⟨by (with_reducible repeat (first | apply yA | apply yB | apply yC)); exact HO130.out⟩, ⟨kR2 HI0⟩, ⟨kR4 HK⟩, ⟨kR3 HB⟩⟩
     · rw [if_neg c10] at H
       exact absurd H (by simp)
    ·
     replace c8 := Bool.eq_false_iff.mpr c8
     subst c8
     have H1 : (if x5_1.length < 17592186044416 then (spec_l05Draw.l0 k1 (wrap64 (x1_1 - 1)) (x5_1 ++ [wrap64 (1 + t119)]) s0_0 t123 t124) else (none)) = some (r1, r2, r3) := by rw [if_neg (show ¬ (false = true) by decide)] at H; exact H
     clear H; have H := H1; clear H1
     by_cases c15 : x5_1.length < 17592186044416
     ·
      rw [if_pos c15] at H
      have LMc15 := yD c15
      clear c15
      obtain ⟨y131, hy131⟩ : ∃ y_ : List Int, y_ = (x5_1 ++ [wrap64 (1 + t119)]) := ⟨_, rfl⟩
      replace H : (spec_l05Draw.l0 k1 (wrap64 (x1_1 - 1)) y131 s0_0 t123 t124) = some (r1, r2, r3) := by first | (rw [hy131]; with_reducible exact H) | (have H2_ := (Option.bind_some _ _).symm.trans H; rw [hy131]; with_reducible exact H2_) | (have H2_ := (Option.bind_some _ _).symm.trans H; with_reducible exact H2_) | with_reducible exact H | (rw [hy131]; exact H) | exact H
      have Ny131 := yD hy131
      clear hy131
      have H' := yD H
      clear H
      go_wp2_with (first | ((with_reducible refine gate_callee (f := 58) rfl ?_); refine goesL_ (some 13) rfl rfl Try.func58 (by kernel_rfl) rfl #[.pointer (some ⟨g, 0, none⟩), .int .i64 6] rfl (by (try simp only [zK, zL, zM]); first | done | rfl | (simp only [zN, zO]; rfl)) ?_; (with_reducible refine (spec_l00Src_pick.calls g s0_0 x1001_1 x1002_1 6 t119 t120 t121 w0 _ ?side1 ?side2 A6.out).mono ?_); (case side1 => exact kR2 HI0); (case side2 => exact kR3 HB); rintro e w16 ⟨rfl, hi, hb, hk⟩; refine ⟨_, rfl, ?_⟩; have n0_ := yD (zF (Kd.R_keep (IsS92.apart (show IsS92 w0 _ g s0_0 x1001_1 x1002_1 from kR2 HI0) (kA HO_5) (by decide)) hk (fun _ h => h.2)) (fun _ h => h.1)); have n1_ := yD (KeepBut.trans (kR4 HK) hk (.inl rfl)); have n2_ := yD (hb); have n3_ := yD (hi); clear HO_5; clear HK; clear HB; clear HI0; have HO_5 := n0_; have HK := n1_; have HB := n2_; have HI0 := n3_; clear n0_ n1_ n2_ n3_; (try clear hb); (try clear hb2); (try clear hk); (try clear hi)) | ((with_reducible refine gate_callee (f := 57) rfl ?_); refine goesL_ (some 16) rfl rfl Try.func57 (by kernel_rfl) rfl #[.pointer (some ⟨g, 0, none⟩), .int .i64 8] rfl (by (try simp only [zK, zL, zM]); first | done | rfl | (simp only [zN, zO]; rfl)) ?_; (with_reducible refine (spec_l00Src_one.calls g s0_0 t120 t121 8 false t123 t124 w0 _ ?side1 ?side2 A7.out).mono ?_); (case side1 => exact kR2 HI0); (case side2 => exact kR3 HB); rintro e w17 ⟨rfl, hi, hb, hk⟩; refine ⟨_, rfl, ?_⟩; have n0_ := yD (zF (Kd.R_keep (IsS92.apart (show IsS92 w0 _ g s0_0 t120 t121 from kR2 HI0) (kA HO_5) (by decide)) hk (fun _ h => h.2)) (fun _ h => h.1)); have n1_ := yD (KeepBut.trans (kR4 HK) hk (.inl rfl)); have n2_ := yD (hb); have n3_ := yD (hi); clear HO_5; clear HK; clear HB; clear HI0; have HO_5 := n0_; have HK := n1_; have HB := n2_; have HI0 := n3_; clear n0_ n1_ n2_ n3_; (try clear hb); (try clear hb2); (try clear hk); (try clear hi)) | ((with_reducible refine gate_builtin (b := .append) (xs := #[.tmp 19, .tmp 21]) rfl ?_); at_builtin; refine Kd.R_append (Kd.int .i64) w.heap.size rfl (.tmp 19) (.tmp 21) 23 2 (.int .i64 0) 8 rfl Try.underlying23 info2 rfl (by decide) (by omega) u5 x5_1 (wrap64 (1 + t119)) [.int .i64 (wrap64 (1 + t119))] (fun _ => True) (fun _ => False) rfl rfl ?aP (fun _ hk => hk.elim) ?aF ?aO (Below.refl _ _) ?aS ?aL ?_; (case aP => exact rfl); (case aF => exact (fun _ _ => trivial)); (case aO => exact (kA HO_5)); (case aS => exact (keep_size (w := w) (g := g) (row := none) (kR4 HK))); (case aL => have := LMc15.out; omega); intro v132 w18 ho hb hg hat; rw [← Ny131.out] at ho; have n0_ := yD (IsS92.grown (kR2 HI0) hg (IsS92.own_ne HI0.out HO_5.out (by decide))); have n1_ := yD (below_weaken (kR3 HB) HL.out hb); have n2_ := yD (KeepBut.trans (kR4 HK) (KeepBut.of_grown hg g) (Kd.R_base2 HO_5.out)); have n3_ := yD (ho); clear HI0; clear HB; clear HK; clear HO_5; have HI0 := n0_; have HB := n1_; have HK := n2_; have HO133 := n3_; clear n0_ n1_ n2_ n3_; clear ho hb hg hat))
      go_roundg k1
      case measure => have := HK1.out; omega
      case rel => exact ⟨(wrap64 (x1_1 - 1)), (y131), (t123), (t124), (by first | rfl | (simp; done) | (simp [*]; done)), H', ⟨by have := HK1.out; omega⟩, ⟨by (with_reducible repeat (first | apply yA | apply yB | apply yC)); exact HO133.out⟩, ⟨kR2 HI0⟩, ⟨kR4 HK⟩, ⟨kR3 HB⟩⟩
     · rw [if_neg c15] at H
       exact absurd H (by simp)
   ·
    rw [if_neg c5] at H
    have c5b0 : decide (0 < x1_1) = false := zS c5; clear c5
    by_cases c19 : (x5_1.length : Int) = 1
    ·
     rw [if_pos c19] at H
     have c19b0 : ((x5_1.length : Int) == 1) = true := beq_iff_eq.mpr c19
     have c19b1 : ((x5_1.length : Int) != 1) = false := bne_eq_false_iff_eq.mpr c19
     clear c19
     obtain ⟨⟨t134, t135, t136⟩, A200, H⟩ := zW_ H
     replace H : (if t134 = true then ((spec_l00Src_among.f s0_0 t135 t136 (([40, 39, 17] : List Int))).bind fun bt140 => (if 0 < (x5_1.length : Int) then (some ((x5_1.set (0 : Int).toNat bt140.1), bt140.2.1, bt140.2.2)) else (none))) else (some (x5_1, t135, t136))) = some (r1, r2, r3) := H
     have A20 := yD A200
     clear A200
     by_cases c21 : t134 = true
     ·
      subst c21
      have H1 : ((spec_l00Src_among.f s0_0 t135 t136 (([40, 39, 17] : List Int))).bind fun bt140 => (if 0 < (x5_1.length : Int) then (some ((x5_1.set (0 : Int).toNat bt140.1), bt140.2.1, bt140.2.2)) else (none))) = some (r1, r2, r3) := by rw [if_pos rfl] at H; exact H
      clear H; have H := H1; clear H1
      obtain ⟨y137, hy137⟩ : ∃ y_ : List Int, y_ = (([40, 39, 17] : List Int)) := ⟨_, rfl⟩
      replace H : ((spec_l00Src_among.f s0_0 t135 t136 y137).bind fun bt140 => (if 0 < (x5_1.length : Int) then (some ((x5_1.set (0 : Int).toNat bt140.1), bt140.2.1, bt140.2.2)) else (none))) = some (r1, r2, r3) := by first | (rw [hy137]; with_reducible exact H) | (have H2_ := (Option.bind_some _ _).symm.trans H; rw [hy137]; with_reducible exact H2_) | (have H2_ := (Option.bind_some _ _).symm.trans H; with_reducible exact H2_) | with_reducible exact H | (rw [hy137]; exact H) | exact H
      have Ny137 := yD hy137
      clear hy137
      obtain ⟨⟨t140, t141, t142⟩, A220, H⟩ := zW_ H
      replace H : (if 0 < (x5_1.length : Int) then (some ((x5_1.set (0 : Int).toNat t140), t141, t142)) else (none)) = some (r1, r2, r3) := H
      have A22 := yD A220
      clear A220
      by_cases c23 : 0 < (x5_1.length : Int)
      ·
       rw [if_pos c23] at H
       have c23b0 : decide (0 < (x5_1.length : Int)) = true := zR c23
       have c23b1 : decide (0 < x5_1.length) = true := zR (by omega)
       clear c23
       obtain ⟨y143, hy143⟩ : ∃ y_ : List Int, y_ = (x5_1.set (0 : Int).toNat t140) := ⟨_, rfl⟩
       replace H : (some (y143, t141, t142)) = some (r1, r2, r3) := by first | (rw [hy143]; with_reducible exact H) | (have H2_ := (Option.bind_some _ _).symm.trans H; rw [hy143]; with_reducible exact H2_) | (have H2_ := (Option.bind_some _ _).symm.trans H; with_reducible exact H2_) | with_reducible exact H | (rw [hy143]; exact H) | exact H
       have Ny143 := yD hy143
       clear hy143
       simp only [Option.some.injEq, Prod.mk.injEq] at H
       obtain ⟨rfl, rfl, rfl⟩ := H
       obtain ⟨Ao25, co25, eo25⟩ := Kd.R_slice HO_5.out
       subst eo25
       go_wp2_with (first | (go_at_call 57; (with_reducible refine (spec_l00Src_one.calls g s0_0 x1001_1 x1002_1 6 true t135 t136 w0 _ ?side1 ?side2 A20.out).mono ?_); (case side1 => exact kR2 HI0); (case side2 => exact kR3 HB); rintro e w26 ⟨rfl, hi, hb, hk⟩; have n0_ := yD (zF (Kd.R_keep (IsS92.apart (show IsS92 w0 _ g s0_0 x1001_1 x1002_1 from kR2 HI0) (kA HO_5) (by decide)) hk (fun _ h => h.2)) (fun _ h => h.1)); have n1_ := yD (KeepBut.trans (kR4 HK) hk (.inl rfl)); have n2_ := yD (hb); have n3_ := yD (hi); clear HO_5; clear HK; clear HB; clear HI0; have HO_5 := n0_; have HK := n1_; have HB := n2_; have HI0 := n3_; clear n0_ n1_ n2_ n3_; (try clear hb); (try clear hb2); (try clear hk); (try clear hi)) | ((with_reducible refine gate_dst (N := 32) rfl ?_); refine Kd.R_lit (Kd.int .i64) _ 2 ?hg (N := 32) ?hd (xs := ([40, 39, 17] : List Int)) (inner := [.int .i64 40, .int .i64 39, .int .i64 17]) (ok := fun _ => True) (okp := fun _ => True) ?hr ?hp (fun _ hk => hk) trivial (Below.refl _ _) (Nat.le_refl _) (by simp) ?_; (case hd => rfl); (case hg => rfl); (case hr => first | (go_simp; done) | (go_simp; rfl)); (case hp => exact (Reps.one (show Kd.M (Kd.int .i64) _ _ _ 40 [.int .i64 40] from rfl) (Reps.one (show Kd.M (Kd.int .i64) _ _ _ 39 [.int .i64 39] from rfl) (Reps.one (show Kd.M (Kd.int .i64) _ _ _ 17 [.int .i64 17] from rfl) (Reps.none _ _))))); intro v138 w27 ho28 hb hg_ hnew_; clear hg_ hnew_; (first | rw [← Ny137.out] at ho28 | (simp only [Int.reduceToNat] at ho28; rw [← Ny137.out] at ho28)); have n0_ := yD (Kd.R_elder' (kA HO_5) (yH ho28) hb); have n1_ := yD (yZ (yJ ho28 (yK (kA HO_5))) (keep_size (w := w) (g := g) (row := none) (kR4 HK))); have n2_ := yD (IsS92.below (kR2 HI0) hb); have n3_ := yD (KeepBut.trans (kR4 HK) (KeepBut.of_below hb g none) (.inl rfl)); have n4_ := yD (zC (kR3 HB) hb); clear HO_5; clear HI0; clear HK; clear HB; have HO_5 := n0_; have HO139 := n1_; have HI0 := n2_; have HK := n3_; have HB := n4_; clear n0_ n1_ n2_ n3_ n4_; clear hb ho28; obtain ⟨Ao29, co29, eo29⟩ := Kd.R_slice HO139.out; subst eo29) | ((with_reducible refine gate_callee (f := 60) rfl ?_); refine goesL_ (some 33) rfl rfl Try.func60 (by kernel_rfl) rfl #[.pointer (some ⟨g, 0, none⟩), .slice Ao29 y137.length co29] rfl (by (try simp only [zK, zL, zM]); first | done | rfl | (simp only [zN, zO]; rfl)) ?_; (with_reducible refine (spec_l00Src_among.calls g s0_0 t135 t136 _ _ y137 t140 t141 t142 w0 _ ?side1 ?side2 ?side3 ?side4 ?side5 A22.out).mono ?_); (case side1 => exact kR2 HI0); (case side2 => exact kR3 HB); (case side3 => exact kV (zA HO139.out).2.2); (case side4 => exact (zA HO139.out).2.1); (case side5 => exact far_slice (IsS92.own_ne HI0.out HO139.out (by decide))); rintro e w30 ⟨rfl, hi, hb, hk⟩; refine ⟨_, rfl, ?_⟩; have n0_ := yD (zF (Kd.R_keep (IsS92.apart (show IsS92 w0 _ g s0_0 t135 t136 from kR2 HI0) (kA HO_5) (by decide)) hk (fun _ h => h.2)) (fun _ h => h.1)); have n1_ := yD (zF (Kd.R_keep (IsS92.apart (show IsS92 w0 _ g s0_0 t135 t136 from kR2 HI0) (kA HO139) (by decide)) hk (fun _ h => h.2)) (fun _ h => h.1)); have n2_ := yD (KeepBut.trans (kR4 HK) hk (.inl rfl)); have n3_ := yD (hb); have n4_ := yD (hi); clear HO_5; clear HO139; clear HK; clear HB; clear HI0; have HO_5 := n0_; have HO139 := n1_; have HK := n2_; have HB := n3_; have HI0 := n4_; clear n0_ n1_ n2_ n3_ n4_; (try clear hb); (try clear hb2); (try clear hk); (try clear hi); have p24 : 0 ≤ (0 : Int) := (by omega); have q24 : (0 : Int) < ((x5_1.length : Int) : Int) := zP (by assumption); have qi24 : (0 < x5_1.length) = True := eq_true (by omega); obtain ⟨go24, co24, eo24, gb24, gl24, cl24, HG24⟩ := Kd.R_form HO_5.out (by omega); (first | cases eo24 | (injection eo24 with ea_ en_ ec_; (first | subst ea_ | (injection ea_ with ea_; subst ea_)); subst ec_; clear en_)); have GB24 := yD gb24; have GG24 := yD HG24; clear gb24 gl24 HG24; obtain ⟨hx24_0, hf24_0⟩ := Kd.R_celln 0 HO_5.out (0 : Int) p24 q24; (try rw [show ((0 : Int)).toNat = 0 from rfl] at hx24_0); (try simp only [Nat.reduceMul, Nat.zero_mul, Nat.zero_add, Nat.reduceAdd] at hx24_0); (try rw [show ((0 : Int)).toNat = 0 from rfl] at hf24_0); (try simp only [Nat.reduceMul, Nat.zero_mul, Nat.zero_add, Nat.reduceAdd] at hf24_0); replace p24 := eq_true p24; replace q24 := eq_true q24; have n_ := yD (zF (ok' := (fun k_ => some k_ ≠ (.slice Ao29 y137.length co29 : Value).ownBlock)) HO_5.out (fun k_ hk => hk.2)); clear HO_5; have HO_5 := n_; clear n_; obtain ⟨hy31_, hz31_⟩ := Kd.R_celln 0 HO_5.out (0 : Int) (by omega) (zP (by assumption)); (try simp only [Int.reduceToNat, Int.toNat_zero, Int.toNat_ofNat, Nat.reduceMul, Nat.zero_mul, Nat.zero_add] at hy31_ hz31_); (try rw [show ((0 : Int)).toNat = 0 from rfl] at hy31_); (try rw [show ((0 : Int)).toNat = 0 from rfl] at hz31_); have HP31 := Kd.R_putg HO_5.out (0 : Int) t140) | ((with_reducible refine gate_store (t := 2) (p := 34) rfl ?_); refine store_event (t := 2) (p := 34) (v := ?vo_w32) (w1 := (w30.setCell ⟨go24, (0 : Int).toNat, none⟩ (.int .i64 t140))) ?hg ?ho ?hn ?hr ?_; (case ho => rfl); (case hg => rfl); (case hn => rfl); (case hr => first | (go_simp; done) | (go_simp; rfl)); intro w32 hw; have hg : w30.grownBy w32 (some go24) := (by rw [hw]; exact HP31.2); have hp_ : Kd.R (Kd.int .i64) 2 w32 w.heap.size (fun k_ => some k_ ≠ (.slice Ao29 y137.length co29 : Value).ownBlock) (.slice (some ⟨go24, 0, none⟩) x5_1.length co25) y143 := (by rw [hw, Ny143.out]; exact HP31.1); clear HP31; have n0_ := yD (hp_); have n1_ := yD (IsS92.grown (kR2 HI0) hg (IsS92.own_ne HI0.out HO_5.out (by decide))); have n2_ := yD (Kd.R_after (v := (.slice (some ⟨go24, 0, none⟩) x5_1.length co25)) (v1 := (.slice (some ⟨go24, 0, none⟩) x5_1.length co25)) (ok := (fun _ => True)) (kA HO139) hg (.inl rfl)); have n3_ := yD ((by rw [hw]; exact yE (HB.out) (Nat.le_trans HL.out GB24.out) : Below w0.heap.size w0 w32)); have n4_ := yD (KeepBut.trans (kR4 HK) (KeepBut.of_grown hg g) (Kd.R_base2 HO_5.out)); clear HO_5; clear HI0; clear HO139; clear HB; clear HK; have HO_5 := n0_; have HI0 := n1_; have HO139 := n2_; have HB := n3_; have HK := n4_; clear n0_ n1_ n2_ n3_ n4_; clear hg hw hp_))
       go_ret
       exact ⟨_, by first | rfl | (simp <;> rfl) | (simp [*] <;> rfl), by (with_reducible repeat (first | apply yA | apply yB | apply yC)); exact zF HO_5.out (fun _ hk => trivial), kR2 HI0, kR3 HB, kR4 HK⟩
      · rw [if_neg c23] at H
        exact absurd H (by simp)
     ·
      replace c21 := Bool.eq_false_iff.mpr c21
      subst c21
      have H1 : (some (x5_1, t135, t136)) = some (r1, r2, r3) := by rw [if_neg (show ¬ (false = true) by decide)] at H; exact H
      clear H; have H := H1; clear H1
      simp only [Option.some.injEq, Prod.mk.injEq] at H
      obtain ⟨rfl, rfl, rfl⟩ := H
      obtain ⟨Ao33, co33, eo33⟩ := Kd.R_slice HO_5.out
      subst eo33
      go_wp2_with (first | (go_at_call 57; (with_reducible refine (spec_l00Src_one.calls g s0_0 x1001_1 x1002_1 6 false t135 t136 w0 _ ?side1 ?side2 A20.out).mono ?_); (case side1 => exact kR2 HI0); (case side2 => exact kR3 HB); rintro e w34 ⟨rfl, hi, hb, hk⟩; have n0_ := yD (zF (Kd.R_keep (IsS92.apart (show IsS92 w0 _ g s0_0 x1001_1 x1002_1 from kR2 HI0) (kA HO_5) (by decide)) hk (fun _ h => h.2)) (fun _ h => h.1)); have n1_ := yD (KeepBut.trans (kR4 HK) hk (.inl rfl)); have n2_ := yD (hb); have n3_ := yD (hi); clear HO_5; clear HK; clear HB; clear HI0; have HO_5 := n0_; have HK := n1_; have HB := n2_; have HI0 := n3_; clear n0_ n1_ n2_ n3_; (try clear hb); (try clear hb2); (try clear hk); (try clear hi)))
      go_ret
      exact ⟨_, by first | rfl | (simp <;> rfl) | (simp [*] <;> rfl), by (with_reducible repeat (first | apply yA | apply yB | apply yC)); exact HO_5.out, kR2 HI0, kR3 HB, kR4 HK⟩
    ·
     rw [if_neg c19] at H
     have c19b0 : ((x5_1.length : Int) == 1) = false := beq_eq_false_iff_ne.mpr c19
     have c19b1 : ((x5_1.length : Int) != 1) = true := bne_iff_ne.mpr c19
     simp only [Option.some.injEq, Prod.mk.injEq] at H
     obtain ⟨rfl, rfl, rfl⟩ := H
     obtain ⟨Ao35, co35, eo35⟩ := Kd.R_slice HO_5.out
     subst eo35
     go_wp2
     go_ret
     exact ⟨_, by first | rfl | (simp <;> rfl) | (simp [*] <;> rfl), by (with_reducible repeat (first | apply yA | apply yB | apply yC)); exact HO_5.out, kR2 HI0, kR3 HB, kR4 HK⟩

/-! ### spec_l05DrawDims: function 26 -/
def spec_l05DrawDims.f (k : Nat) (s0_0 : List Int) (s0_1 : Int) (s0_2 : Int) : Option (List Int × Int × Int) := (spec_l00Src_among.f s0_0 s0_1 s0_2 (([1, 1, 2, 2, 2, 3, 3, 0] : List Int))).bind fun bt147 => ((spec_l05Draw.f k s0_0 bt147.2.1 bt147.2.2 bt147.1).bind fun bt150 => (some (bt150.1, bt150.2.1, bt150.2.2)))
theorem spec_l05DrawDims.mono : ∀ a0 a1 a2 k, LeO (spec_l05DrawDims.f k a0 a1 a2) (spec_l05DrawDims.f (k + 1) a0 a1 a2) := by
 intro a0 a1 a2 k
 unfold spec_l05DrawDims.f
 repeat' first
  | (with_reducible exact spec_l05Draw.mono _ _ _ _ _)
  | (with_reducible exact LeO.refl _)
  | (with_reducible exact LeO.none _)
  | (with_reducible refine LeO.ite ?_ ?_)
  | (with_reducible refine LeO.bind ?_ (fun _ => ?_))
  | exact spec_l05Draw.mono _ _ _ _ _
  | exact LeO.none _
  | refine LeO.ite ?_ ?_
  | refine LeO.bind ?_ (fun _ => ?_)
set_option maxHeartbeats 8000000 in
set_option maxRecDepth 100000 in
theorem spec_l05DrawDims.calls (k : Nat) (g : Nat) (s0_0 : List Int) (s0_1 : Int) (s0_2 : Int) (r1 : List Int) (r2 : Int) (r3 : Int) (w0 w : World) (hI : IsS92 w0 w g s0_0 s0_1 s0_2) (hB : Below w0.heap.size w0 w) (h : spec_l05DrawDims.f k s0_0 s0_1 s0_2 = some (r1, r2, r3)) :
 Calls Try.prog 26 #[.pointer (some ⟨g, 0, none⟩)] w fun e w' => ∃ v0_ : Value, e = .returned (v0_) ∧ Kd.R (Kd.int .i64) 2 w' w.heap.size (fun _ => True) v0_ r1 ∧ IsS92 w0 w' g s0_0 r2 r3 ∧ Below w0.heap.size w0 w' ∧ KeepBut w w' g none := by
 have HI0 := yD hI
 have HK := yD (KeepBut.refl w g none)
 have HL := yD hB.size
 clear hI
 have HW0 := yD hB.size
 have HB := yD hB
 clear hB
 have H : ((spec_l00Src_among.f s0_0 s0_1 s0_2 (([1, 1, 2, 2, 2, 3, 3, 0] : List Int))).bind fun bt147 => ((spec_l05Draw.f k s0_0 bt147.2.1 bt147.2.2 bt147.1).bind fun bt150 => (some (bt150.1, bt150.2.1, bt150.2.2)))) = some (r1, r2, r3) := h
 clear h
 obtain ⟨y144, hy144⟩ : ∃ y_ : List Int, y_ = (([1, 1, 2, 2, 2, 3, 3, 0] : List Int)) := ⟨_, rfl⟩
 replace H : ((spec_l00Src_among.f s0_0 s0_1 s0_2 y144).bind fun bt147 => ((spec_l05Draw.f k s0_0 bt147.2.1 bt147.2.2 bt147.1).bind fun bt150 => (some (bt150.1, bt150.2.1, bt150.2.2)))) = some (r1, r2, r3) := by first | (rw [hy144]; with_reducible exact H) | (have H2_ := (Option.bind_some _ _).symm.trans H; rw [hy144]; with_reducible exact H2_) | (have H2_ := (Option.bind_some _ _).symm.trans H; with_reducible exact H2_) | with_reducible exact H | (rw [hy144]; exact H) | exact H
 have Ny144 := yD hy144
 clear hy144
 obtain ⟨⟨t147, t148, t149⟩, A20, H⟩ := zW_ H
 replace H : ((spec_l05Draw.f k s0_0 t148 t149 t147).bind fun bt150 => (some (bt150.1, bt150.2.1, bt150.2.2))) = some (r1, r2, r3) := H
 have A2 := yD A20
 clear A20
 obtain ⟨⟨t150, t153, t154⟩, A30, H⟩ := zW_ H
 replace H : (some (t150, t153, t154)) = some (r1, r2, r3) := H
 have A3 := yD A30
 clear A30
 simp only [Option.some.injEq, Prod.mk.injEq] at H
 obtain ⟨rfl, rfl, rfl⟩ := H
 go_enter Try.func26, Try.ntmps26
 go_wp2_with (first | ((with_reducible refine gate_dst (N := 5) rfl ?_); refine Kd.R_lit (Kd.int .i64) _ 2 ?hg (N := 5) ?hd (xs := ([1, 1, 2, 2, 2, 3, 3, 0] : List Int)) (inner := [.int .i64 1, .int .i64 1, .int .i64 2, .int .i64 2, .int .i64 2, .int .i64 3, .int .i64 3, .int .i64 0]) (ok := fun _ => True) (okp := fun _ => True) ?hr ?hp (fun _ hk => hk) trivial (Below.refl _ _) (Nat.le_refl _) (by simp) ?_; (case hd => rfl); (case hg => rfl); (case hr => first | (go_simp; done) | (go_simp; rfl)); (case hp => exact (Reps.one (show Kd.M (Kd.int .i64) _ _ _ 1 [.int .i64 1] from rfl) (Reps.one (show Kd.M (Kd.int .i64) _ _ _ 1 [.int .i64 1] from rfl) (Reps.one (show Kd.M (Kd.int .i64) _ _ _ 2 [.int .i64 2] from rfl) (Reps.one (show Kd.M (Kd.int .i64) _ _ _ 2 [.int .i64 2] from rfl) (Reps.one (show Kd.M (Kd.int .i64) _ _ _ 2 [.int .i64 2] from rfl) (Reps.one (show Kd.M (Kd.int .i64) _ _ _ 3 [.int .i64 3] from rfl) (Reps.one (show Kd.M (Kd.int .i64) _ _ _ 3 [.int .i64 3] from rfl) (Reps.one (show Kd.M (Kd.int .i64) _ _ _ 0 [.int .i64 0] from rfl) (Reps.none _ _)))))))))); intro v145 w4 ho5 hb hg_ hnew_; clear hg_ hnew_; (first | rw [← Ny144.out] at ho5 | (simp only [Int.reduceToNat] at ho5; rw [← Ny144.out] at ho5)); have n0_ := yD (yZ ho5 (keep_size (w := w) (g := g) (row := none) (kR4 HK))); have n1_ := yD (IsS92.below (kR2 HI0) hb); have n2_ := yD (KeepBut.trans (kR4 HK) (KeepBut.of_below hb g none) (.inl rfl)); have n3_ := yD (zC (kR3 HB) hb); clear HI0; clear HK; clear HB; have HO146 := n0_; have HI0 := n1_; have HK := n2_; have HB := n3_; clear n0_ n1_ n2_ n3_; clear hb ho5; obtain ⟨Ao6, co6, eo6⟩ := Kd.R_slice HO146.out; subst eo6) | ((with_reducible refine gate_callee (f := 60) rfl ?_); refine goesL_ (some 6) rfl rfl Try.func60 (by kernel_rfl) rfl #[.pointer (some ⟨g, 0, none⟩), .slice Ao6 y144.length co6] rfl (by (try simp only [zK, zL, zM]); first | done | rfl | (simp only [zN, zO]; rfl)) ?_; (with_reducible refine (spec_l00Src_among.calls g s0_0 s0_1 s0_2 _ _ y144 t147 t148 t149 w0 _ ?side1 ?side2 ?side3 ?side4 ?side5 A2.out).mono ?_); (case side1 => exact kR2 HI0); (case side2 => exact kR3 HB); (case side3 => exact kV (zA HO146.out).2.2); (case side4 => exact (zA HO146.out).2.1); (case side5 => exact far_slice (IsS92.own_ne HI0.out HO146.out (by decide))); rintro e w7 ⟨rfl, hi, hb, hk⟩; refine ⟨_, rfl, ?_⟩; have n0_ := yD (zF (Kd.R_keep (IsS92.apart (show IsS92 w0 _ g s0_0 s0_1 s0_2 from kR2 HI0) (kA HO146) (by decide)) hk (fun _ h => h.2)) (fun _ h => h.1)); have n1_ := yD (KeepBut.trans (kR4 HK) hk (.inl rfl)); have n2_ := yD (hb); have n3_ := yD (hi); clear HO146; clear HK; clear HB; clear HI0; have HO146 := n0_; have HK := n1_; have HB := n2_; have HI0 := n3_; clear n0_ n1_ n2_ n3_; (try clear hb); (try clear hb2); (try clear hk); (try clear hi)) | ((with_reducible refine gate_callee (f := 61) rfl ?_); refine goesL_ (some 9) rfl rfl Try.func61 (by kernel_rfl) rfl #[.pointer (some ⟨g, 0, none⟩), .int .i64 t147] rfl (by (try simp only [zK, zL, zM]); first | done | rfl | (simp only [zN, zO]; rfl)) ?_; (with_reducible refine (spec_l05Draw.calls k g s0_0 t148 t149 t147 t150 t153 t154 w0 _ ?side1 ?side2 A3.out).mono ?_); (case side1 => exact kR2 HI0); (case side2 => exact kR3 HB); rintro e w8 ⟨v151, rfl, ho0, hi, hb, hk⟩; refine ⟨_, rfl, ?_⟩; have n0_ := yD (zF (yI (Kd.R_oldK (IsS92.apart (show IsS92 w0 _ g s0_0 t148 t149 from kR2 HI0) (kA HO146) (by decide)) hk) (yH ho0)) (fun _ h_ => h_.1)); have n1_ := yD (yZ (yJ ho0 (yK (kA HO146))) (keep_size (w := w) (g := g) (row := none) (kR4 HK))); have n2_ := yD (KeepBut.trans (kR4 HK) hk (.inl rfl)); have n3_ := yD (hb); have n4_ := yD (hi); clear HO146; clear HK; clear HB; clear HI0; have HO146 := n0_; have HO152 := n1_; have HK := n2_; have HB := n3_; have HI0 := n4_; clear n0_ n1_ n2_ n3_ n4_; (try clear hb); (try clear hb2); (try clear hk); (try clear hi); (try clear ho0)))
 go_ret
 exact ⟨_, by first | rfl | (simp <;> rfl) | (simp [*] <;> rfl), by (with_reducible repeat (first | apply yA | apply yB | apply yC)); exact zF HO152.out (fun _ hk => trivial), kR2 HI0, kR3 HB, kR4 HK⟩

/-! ### spec_l05DrawAt: function 27 -/
def spec_l05DrawAt.l0 : Nat → List Int → List Int → Int → List Int → Int → Int → Option (List Int × Int × Int)
 | 0, _, _, _, _, _, _ => none
 | k + 1, x1, x5, x6, x1000, x1001, x1002 => if x6 < (x1.length : Int) then (if 0 ≤ x6 then ((spec_l00Src_pick.f x1000 x1001 x1002 (rd x1 x6)).bind fun bt165 => ((spec_l00Src_one.f x1000 bt165.2.1 bt165.2.2 20).bind fun bt168 => (if bt168.1 = true then ((spec_l00Src_pick.f x1000 bt168.2.1 bt168.2.2 2).bind fun bt172 => (if x5.length < 17592186044416 then (spec_l05DrawAt.l0 k x1 (x5 ++ [wrap64 ((rd x1 x6) - (wrap64 (bt172.1 * (wrap64 ((rd x1 x6) + 1)))))]) (wrap64 (x6 + 1)) x1000 bt172.2.1 bt172.2.2) else (none))) else (if x5.length < 17592186044416 then (spec_l05DrawAt.l0 k x1 (x5 ++ [bt165.1]) (wrap64 (x6 + 1)) x1000 bt168.2.1 bt168.2.2) else (none))))) else (none)) else ((spec_l00Src_one.f x1000 x1001 x1002 20).bind fun bt158 => (if bt158.1 = true then (if x5.length < 17592186044416 then (some ((x5 ++ [0]), bt158.2.1, bt158.2.2)) else (none)) else (some (x5, bt158.2.1, bt158.2.2))))
def spec_l05DrawAt.f (k : Nat) (s0_0 : List Int) (s0_1 : Int) (s0_2 : Int) (l1 : List Int) : Option (List Int × Int × Int) := spec_l05DrawAt.l0 k l1 (([] : List Int)) 0 s0_0 s0_1 s0_2
theorem spec_l05DrawAt.mono_l : ∀ k, (∀ y0 y1 y2 y3 y4 y5, LeO (spec_l05DrawAt.l0 k y0 y1 y2 y3 y4 y5) (spec_l05DrawAt.l0 (k + 1) y0 y1 y2 y3 y4 y5))
 | 0 => fun _ _ _ _ _ _ r h => by simp [spec_l05DrawAt.l0] at h
 | k + 1 => by
  have ih0 := spec_l05DrawAt.mono_l k
  ·
   intro y0 y1 y2 y3 y4 y5
   unfold spec_l05DrawAt.l0
   repeat' first
   | (with_reducible exact ih0 _ _ _ _ _ _)
   | (with_reducible exact LeO.refl _)
   | (with_reducible exact LeO.none _)
   | (with_reducible refine LeO.ite ?_ ?_)
   | (with_reducible refine LeO.bind ?_ (fun _ => ?_))
   | exact ih0 _ _ _ _ _ _
   | exact LeO.none _
   | refine LeO.ite ?_ ?_
   | refine LeO.bind ?_ (fun _ => ?_)
theorem spec_l05DrawAt.mono : ∀ a0 a1 a2 a3 k, LeO (spec_l05DrawAt.f k a0 a1 a2 a3) (spec_l05DrawAt.f (k + 1) a0 a1 a2 a3) := by
 intro a0 a1 a2 a3 k
 have ih0 := spec_l05DrawAt.mono_l k
 unfold spec_l05DrawAt.f
 repeat' first
  | (with_reducible exact ih0 _ _ _ _ _ _)
  | (with_reducible exact LeO.refl _)
  | (with_reducible exact LeO.none _)
  | (with_reducible refine LeO.ite ?_ ?_)
  | (with_reducible refine LeO.bind ?_ (fun _ => ?_))
  | exact ih0 _ _ _ _ _ _
  | exact LeO.none _
  | refine LeO.ite ?_ ?_
  | refine LeO.bind ?_ (fun _ => ?_)
def spec_l05DrawAt.T7 : Bool × List (List Nat × List Nat) := (true, [([], []), ([], []), ([0, 1], [0, 1]), ([2], [2]), ([], []), ([4], [4]), ([], []), ([], []), ([6, 7], [6, 7]), ([8], [8]), ([9], [9]), ([5, 10], [5, 10]), ([3, 11], [3, 11]), ([12, 5, 0, 1, 2, 3, 4, 5, 6, 7, 8, 9, 10, 11, 12], [12])])
def spec_l05DrawAt.B7 : List Nat := [0, 0, 3, 7, 0, 16, 0, 0, 192, 448, 960, 2032, 4095, 8191]
theorem spec_l05DrawAt.tab7 : rtab .any (opsOf Try.f27 7) = spec_l05DrawAt.T7 := by kernel_rfl
theorem spec_l05DrawAt.bits7 : waitsOk spec_l05DrawAt.T7.2 spec_l05DrawAt.B7 = true := by kernel_rfl
set_option maxHeartbeats 8000000 in
set_option maxRecDepth 100000 in
theorem spec_l05DrawAt.calls (k : Nat) (g : Nat) (s0_0 : List Int) (s0_1 : Int) (s0_2 : Int) (A1 : Option Addr) (c1 : Nat) (l1 : List Int) (r1 : List Int) (r2 : Int) (r3 : Int) (w0 w : World) (hI : IsS92 w0 w g s0_0 s0_1 s0_2) (hB : Below w0.heap.size w0 w) (hr1 : Kd.C (Kd.int .i64) w A1 l1.length l1) (hc1 : l1.length ≤ c1) (hf1 : ∀ ad, A1 = some ad → 0 < l1.length → ad.block ≠ g) (h : spec_l05DrawAt.f k s0_0 s0_1 s0_2 l1 = some (r1, r2, r3)) :
 Calls Try.prog 27 #[.pointer (some ⟨g, 0, none⟩), .slice A1 l1.length c1] w fun e w' => ∃ v0_ : Value, e = .returned (v0_) ∧ Kd.R (Kd.int .i64) 2 w' w.heap.size (fun _ => True) v0_ r1 ∧ IsS92 w0 w' g s0_0 r2 r3 ∧ Below w0.heap.size w0 w' ∧ KeepBut w w' g none := by
 have HR1 := yD hr1
 have HC1 := yD hc1
 clear hr1 hc1
 have HI0 := yD hI
 have HK := yD (KeepBut.refl w g none)
 have HL := yD hB.size
 clear hI
 have HW0 := yD hB.size
 have HB := yD hB
 clear hB
 have H : (spec_l05DrawAt.l0 k l1 (([] : List Int)) 0 s0_0 s0_1 s0_2) = some (r1, r2, r3) := h
 clear h
 obtain ⟨y155, hy155⟩ : ∃ y_ : List Int, y_ = (([] : List Int)) := ⟨_, rfl⟩
 replace H : (spec_l05DrawAt.l0 k l1 y155 0 s0_0 s0_1 s0_2) = some (r1, r2, r3) := by first | (rw [hy155]; with_reducible exact H) | (have H2_ := (Option.bind_some _ _).symm.trans H; rw [hy155]; with_reducible exact H2_) | (have H2_ := (Option.bind_some _ _).symm.trans H; with_reducible exact H2_) | with_reducible exact H | (rw [hy155]; exact H) | exact H
 have Ny155 := yD hy155
 clear hy155
 have H' := yD H
 clear H; go_enter Try.func27, Try.ntmps27
 go_wp2_with (first | ((with_reducible refine gate_dst (N := 8) rfl ?_); refine Kd.R_lit (Kd.int .i64) _ 2 ?hg (N := 8) ?hd (xs := ([] : List Int)) (inner := []) (ok := fun _ => True) (okp := fun _ => True) ?hr ?hp (fun _ hk => hk) trivial (Below.refl _ _) (Nat.le_refl _) (by simp) ?_; (case hd => rfl); (case hg => rfl); (case hr => first | (go_simp; done) | (go_simp; rfl)); (case hp => exact (Reps.none _ _)); intro v156 w3 ho4 hb hg_ hnew_; clear hg_ hnew_; (first | rw [← Ny155.out] at ho4 | (simp only [Int.reduceToNat] at ho4; rw [← Ny155.out] at ho4)); have n0_ := yD (yZ ho4 (keep_size (w := w) (g := g) (row := none) (kR4 HK))); have n1_ := yD (IsS92.below (kR2 HI0) hb); have n2_ := yD (KeepBut.trans (kR4 HK) (KeepBut.of_below hb g none) (.inl rfl)); have n3_ := yD (zC (kR3 HB) hb); clear HI0; clear HK; clear HB; have HO157 := n0_; have HI0 := n1_; have HK := n2_; have HB := n3_; clear n0_ n1_ n2_ n3_; clear hb ho4))
 go_loopg [5, 6] k (fun kq v5 v6 w' => ∃ (x5_1 : List Int) (x6_1 : Int) (x1001_1 : Int) (x1002_1 : Int), v6 = .int .i64 x6_1 ∧ Aside0 (spec_l05DrawAt.l0 kq l1 x5_1 x6_1 s0_0 x1001_1 x1002_1 = some (r1, r2, r3)) ∧ Aside0 (kq ≤ k) ∧ Aside0 (Kd.R (Kd.int .i64) 2 w' w.heap.size (fun _ => True) v5 x5_1) ∧ Aside0 (IsS92 w0 w' g s0_0 x1001_1 x1002_1) ∧ Aside0 (KeepBut w w' g none) ∧ Aside0 (Below w0.heap.size w0 w'))
 case atStart => exact ⟨(y155), (0), (s0_1), (s0_2), (by first | rfl | (simp; done) | (simp [*]; done)), H', ⟨Nat.le_refl _⟩, ⟨by (with_reducible repeat (first | apply yA | apply yB | apply yC)); exact HO157.out⟩, ⟨kR2 HI0⟩, ⟨kR4 HK⟩, ⟨kR3 HB⟩⟩
 case round =>
  clear H'
  try clear c1; try clear c2; try clear p2
  obtain ⟨x5_1, x6_1, x1001_1, x1002_1, rfl, HA, HK1, HO_5, HI0, HK, HB⟩ := hrel
  cases gk with
  | zero => exact absurd HA.out (by simp [spec_l05DrawAt.l0])
  | succ k1 =>
   have H := HA.out; clear HA
   simp only [spec_l05DrawAt.l0] at H
   by_cases c5 : x6_1 < (l1.length : Int)
   ·
    rw [if_pos c5] at H
    have c5b0 : decide (x6_1 < (l1.length : Int)) = true := zR c5; clear c5
    by_cases c6 : 0 ≤ x6_1
    ·
     rw [if_pos c6] at H
     have c6b0 : decide (0 ≤ x6_1) = true := zR c6; clear c6
     obtain ⟨⟨t165, t166, t167⟩, A70, H⟩ := zW_ H
     replace H : ((spec_l00Src_one.f s0_0 t166 t167 20).bind fun bt168 => (if bt168.1 = true then ((spec_l00Src_pick.f s0_0 bt168.2.1 bt168.2.2 2).bind fun bt172 => (if x5_1.length < 17592186044416 then (spec_l05DrawAt.l0 k1 l1 (x5_1 ++ [wrap64 ((rd l1 x6_1) - (wrap64 (bt172.1 * (wrap64 ((rd l1 x6_1) + 1)))))]) (wrap64 (x6_1 + 1)) s0_0 bt172.2.1 bt172.2.2) else (none))) else (if x5_1.length < 17592186044416 then (spec_l05DrawAt.l0 k1 l1 (x5_1 ++ [t165]) (wrap64 (x6_1 + 1)) s0_0 bt168.2.1 bt168.2.2) else (none)))) = some (r1, r2, r3) := H
     have A7 := yD A70
     clear A70
     obtain ⟨⟨t168, t169, t170⟩, A80, H⟩ := zW_ H
     replace H : (if t168 = true then ((spec_l00Src_pick.f s0_0 t169 t170 2).bind fun bt172 => (if x5_1.length < 17592186044416 then (spec_l05DrawAt.l0 k1 l1 (x5_1 ++ [wrap64 ((rd l1 x6_1) - (wrap64 (bt172.1 * (wrap64 ((rd l1 x6_1) + 1)))))]) (wrap64 (x6_1 + 1)) s0_0 bt172.2.1 bt172.2.2) else (none))) else (if x5_1.length < 17592186044416 then (spec_l05DrawAt.l0 k1 l1 (x5_1 ++ [t165]) (wrap64 (x6_1 + 1)) s0_0 t169 t170) else (none))) = some (r1, r2, r3) := H
     have A8 := yD A80
     clear A80
     by_cases c9 : t168 = true
     ·
      subst c9
      have H1 : ((spec_l00Src_pick.f s0_0 t169 t170 2).bind fun bt172 => (if x5_1.length < 17592186044416 then (spec_l05DrawAt.l0 k1 l1 (x5_1 ++ [wrap64 ((rd l1 x6_1) - (wrap64 (bt172.1 * (wrap64 ((rd l1 x6_1) + 1)))))]) (wrap64 (x6_1 + 1)) s0_0 bt172.2.1 bt172.2.2) else (none))) = some (r1, r2, r3) := by rw [if_pos rfl] at H; exact H
      clear H; have H := H1; clear H1
      obtain ⟨⟨t172, t173, t174⟩, A100, H⟩ := zW_ H
      replace H : (if x5_1.length < 17592186044416 then (spec_l05DrawAt.l0 k1 l1 (x5_1 ++ [wrap64 ((rd l1 x6_1) - (wrap64 (t172 * (wrap64 ((rd l1 x6_1) + 1)))))]) (wrap64 (x6_1 + 1)) s0_0 t173 t174) else (none)) = some (r1, r2, r3) := H
      have A10 := yD A100
      clear A100
      by_cases c11 : x5_1.length < 17592186044416
      ·
       rw [if_pos c11] at H
       have LMc11 := yD c11
       clear c11
       obtain ⟨y176, hy176⟩ : ∃ y_ : List Int, y_ = (x5_1 ++ [wrap64 ((rd l1 x6_1) - (wrap64 (t172 * (wrap64 ((rd l1 x6_1) + 1)))))]) := ⟨_, rfl⟩
       replace H : (spec_l05DrawAt.l0 k1 l1 y176 (wrap64 (x6_1 + 1)) s0_0 t173 t174) = some (r1, r2, r3) := by first | (rw [hy176]; with_reducible exact H) | (have H2_ := (Option.bind_some _ _).symm.trans H; rw [hy176]; with_reducible exact H2_) | (have H2_ := (Option.bind_some _ _).symm.trans H; with_reducible exact H2_) | with_reducible exact H | (rw [hy176]; exact H) | exact H
       have Ny176 := yD hy176
       clear hy176
       have H' := yD H
       clear H
       have p164 : 0 ≤ (x6_1 : Int) := zP (by assumption)
       have q164 : x6_1 < (l1.length : Int) := zP (by assumption)
       obtain ⟨ad164, e164, hx164_0⟩ := Kd.at_int HR1.out x6_1 p164 q164
       cases e164
       replace hx164_0 := keep_cell HK.out hx164_0 (by first | (rw [add_block]; exact hf1 _ rfl (by omega)) | exact hf1 _ rfl (by omega) | exact hf1 ad164 rfl (by omega))
       replace p164 := eq_true p164; replace q164 := eq_true q164
       try go_wp2_with (first | ((with_reducible refine gate_callee (f := 58) rfl ?_); refine goesL_ (some 20) rfl rfl Try.func58 (by kernel_rfl) rfl #[.pointer (some ⟨g, 0, none⟩), .int .i64 (rd l1 x6_1)] rfl (by (try simp only [zK, zL, zM]); first | done | rfl | (simp only [zN, zO]; rfl)) ?_; (with_reducible refine (spec_l00Src_pick.calls g s0_0 x1001_1 x1002_1 (rd l1 x6_1) t165 t166 t167 w0 _ ?side1 ?side2 A7.out).mono ?_); (case side1 => exact kR2 HI0); (case side2 => exact kR3 HB); rintro e w12 ⟨rfl, hi, hb, hk⟩; refine ⟨_, rfl, ?_⟩; have n0_ := yD (zF (Kd.R_keep (IsS92.apart (show IsS92 w0 _ g s0_0 x1001_1 x1002_1 from kR2 HI0) (kA HO_5) (by decide)) hk (fun _ h => h.2)) (fun _ h => h.1)); have n1_ := yD (KeepBut.trans (kR4 HK) hk (.inl rfl)); have n2_ := yD (hb); have n3_ := yD (hi); clear HO_5; clear HK; clear HB; clear HI0; have HO_5 := n0_; have HK := n1_; have HB := n2_; have HI0 := n3_; clear n0_ n1_ n2_ n3_; (try clear hb); (try clear hb2); (try clear hk); (try clear hi)) | ((with_reducible refine gate_callee (f := 57) rfl ?_); refine goesL_ (some 22) rfl rfl Try.func57 (by kernel_rfl) rfl #[.pointer (some ⟨g, 0, none⟩), .int .i64 20] rfl (by (try simp only [zK, zL, zM]); first | done | rfl | (simp only [zN, zO]; rfl)) ?_; (with_reducible refine (spec_l00Src_one.calls g s0_0 t166 t167 20 true t169 t170 w0 _ ?side1 ?side2 A8.out).mono ?_); (case side1 => exact kR2 HI0); (case side2 => exact kR3 HB); rintro e w13 ⟨rfl, hi, hb, hk⟩; refine ⟨_, rfl, ?_⟩; have n0_ := yD (zF (Kd.R_keep (IsS92.apart (show IsS92 w0 _ g s0_0 t166 t167 from kR2 HI0) (kA HO_5) (by decide)) hk (fun _ h => h.2)) (fun _ h => h.1)); have n1_ := yD (KeepBut.trans (kR4 HK) hk (.inl rfl)); have n2_ := yD (hb); have n3_ := yD (hi); clear HO_5; clear HK; clear HB; clear HI0; have HO_5 := n0_; have HK := n1_; have HB := n2_; have HI0 := n3_; clear n0_ n1_ n2_ n3_; (try clear hb); (try clear hb2); (try clear hk); (try clear hi)))
       have n0_ := yD (yC HO_5.out)
       have n1_ := yD (IsS92.drew HI0.out)
       have n2_ := yD (keep_drew HK.out)
       have n3_ := yD (yP HB.out)
       clear HO_5 HI0 HK HB; have HO_5 := n0_; have HI0 := n1_; have HK := n2_; have HB := n3_; clear n0_ n1_ n2_ n3_
       have p171 : 0 ≤ (x6_1 : Int) := zP (by assumption)
       have q171 : x6_1 < (l1.length : Int) := zP (by assumption)
       obtain ⟨ad171, e171, hx171_0⟩ := Kd.at_int HR1.out x6_1 p171 q171
       have hw171_0 := hx171_0
       obtain rfl : ad164 = ad171 := (by injection e171)
       have hne171_0 := (show ((ad164.add (x6_1).toNat) : Addr).block ≠ g from by first | (rw [add_block]; exact hf1 ad164 rfl (by omega)) | (show (Addr.add _ _).block ≠ _; rw [add_block]; exact hf1 ad164 rfl (by omega)) | exact hf1 ad164 rfl (by omega))
       replace hx171_0 := keep_cell HK.out hx171_0 (by first | (rw [add_block]; exact hf1 _ rfl (by omega)) | exact hf1 _ rfl (by omega) | exact hf1 ad164 rfl (by omega))
       replace p171 := eq_true p171; replace q171 := eq_true q171
       have p175 : 0 ≤ (x6_1 : Int) := zP (by assumption)
       have q175 : x6_1 < (l1.length : Int) := zP (by assumption)
       obtain ⟨ad175, e175, hx175_0⟩ := Kd.at_int HR1.out x6_1 p175 q175
       have hw175_0 := hx175_0
       obtain rfl : ad164 = ad175 := (by injection e175)
       have hne175_0 := (show ((ad164.add (x6_1).toNat) : Addr).block ≠ g from by first | (rw [add_block]; exact hf1 ad164 rfl (by omega)) | (show (Addr.add _ _).block ≠ _; rw [add_block]; exact hf1 ad164 rfl (by omega)) | exact hf1 ad164 rfl (by omega))
       replace hx175_0 := keep_cell HK.out hx175_0 (by first | (rw [add_block]; exact hf1 _ rfl (by omega)) | exact hf1 _ rfl (by omega) | exact hf1 ad164 rfl (by omega))
       replace p175 := eq_true p175; replace q175 := eq_true q175
       refine start_ (n := 14) (S := fun w' => w'.cell? (ad164.add (x6_1).toNat) = some (.int .i64 (rd l1 x6_1)) ∧ w'.cell? (ad164.add (x6_1).toNat) = some (.int .i64 (rd l1 x6_1))) (ds := []) (bz 14 0) (by kernel_rfl) rfl rfl ⟨(keep_cell HK.out hw171_0 hne171_0), (keep_cell HK.out hw175_0 hne175_0)⟩ (fun hHeld => ?_); refine with_tabW spec_l05DrawAt.tab7 spec_l05DrawAt.bits7 (fun HT_ HW_ => ?_)
       generalize w13.drew = w14 at HO_5 HI0 HK HB hx171_0 hx175_0 hHeld ⊢
       refine qA 0 23 (bz 14 1) HT_ ?_
       refine qA 1 24 (bz 14 3) HT_ ?_
       refine qA 2 25 (bz 14 7) HT_ ?_
       refine qA 4 27 (bz 14 23) HT_ ?_
       refine qA 6 29 (bz 14 87) HT_ ?_
       refine qA 7 30 (bz 14 215) HT_ ?_
       refine qA 8 31 (bz 14 471) HT_ ?_
       refine qC 3 26 (bz 14 479) HT_ HW_ hHeld ?_ (hy := by rintro w' ⟨s0, s1⟩; go_simp; with_reducible rfl)
       refine qC 9 32 (bz 14 991) HT_ HW_ hHeld ?_ (hy := by rintro w' ⟨s0, s1⟩; go_simp; with_reducible rfl)
       refine qA 10 33 (bz 14 2015) HT_ ?_
       refine one_ (i := 5) (N := some 28) (bz 14 2047) rfl rfl (one_of HT_.out (by kernel_rfl)) (by decide) (fun K hK => ?_)
       refine goes_ Try.func58 (by kernel_rfl) rfl #[.pointer (some ⟨g, 0, none⟩), .int .i64 2] (by rfl) rfl rfl (by (try simp only [zK, zL, zM]); first | done | rfl | (simp only [zN, zO]; rfl)) ?_
       with_reducible refine (spec_l00Src_pick.calls g s0_0 t169 t170 2 t172 t173 t174 w0 _ ?side1 ?side2 A10.out).mono ?_
       (case side1 => exact kR2 HI0)
       (case side2 => exact kR3 HB)
       rintro e w15 ⟨rfl, hi, hb, hk⟩
       refine ⟨_, rfl, ?_⟩
       have n0_ := yD (zF (Kd.R_keep (IsS92.apart (show IsS92 w0 _ g s0_0 t169 t170 from kR2 HI0) (kA HO_5) (by decide)) hk (fun _ h => h.2)) (fun _ h => h.1))
       have n1_ := yD (KeepBut.trans (kR4 HK) hk (.inl rfl))
       have n2_ := yD (hb)
       have n3_ := yD (hi)
       clear HO_5 HK HB HI0; have HO_5 := n0_; have HK := n1_; have HB := n2_; have HI0 := n3_; clear n0_ n1_ n2_ n3_; (try clear hb); (try clear hb2); (try clear hk); (try clear hi)
       refine hK.out _ _ ⟨(keep_cell HK.out hw171_0 hne171_0), (keep_cell HK.out hw175_0 hne175_0)⟩ (fun hHeld => ?_)
       clear hK K
       refine norm_ (a' := ?_) ?_ ?_
       rotate_left
       · show Act.put _ (some 28) _ = _
         simp only [Act.put, zH, zI, zJ, i64_w, i32_w]
         rfl
       refine qA 11 34 (bz 14 4095) HT_ ?_
       refine qA 12 35 (bz 14 8191) HT_ ?_
       refine qA 13 7 (bz 14 16383) HT_ ?_
       refine done_ (done_of HT_.out (by kernel_rfl)) ?_
       try go_wp2_with (first | ((with_reducible refine gate_builtin (b := .append) (xs := #[.tmp 36, .tmp 38]) rfl ?_); at_builtin; refine Kd.R_append (Kd.int .i64) w.heap.size rfl (.tmp 36) (.tmp 38) 23 2 (.int .i64 0) 8 rfl Try.underlying23 info2 rfl (by decide) (by omega) u5 x5_1 (wrap64 ((rd l1 x6_1) - (wrap64 (t172 * (wrap64 ((rd l1 x6_1) + 1)))))) [.int .i64 (wrap64 ((rd l1 x6_1) - (wrap64 (t172 * (wrap64 ((rd l1 x6_1) + 1))))))] (fun _ => True) (fun _ => False) rfl rfl ?aP (fun _ hk => hk.elim) ?aF ?aO (Below.refl _ _) ?aS ?aL ?_; (case aP => exact rfl); (case aF => exact (fun _ _ => trivial)); (case aO => exact (kA HO_5)); (case aS => exact (keep_size (w := w) (g := g) (row := none) (kR4 HK))); (case aL => have := LMc11.out; omega); intro v177 w16 ho hb hg hat; rw [← Ny176.out] at ho; have n0_ := yD (IsS92.grown (kR2 HI0) hg (IsS92.own_ne HI0.out HO_5.out (by decide))); have n1_ := yD (below_weaken (kR3 HB) HL.out hb); have n2_ := yD (KeepBut.trans (kR4 HK) (KeepBut.of_grown hg g) (Kd.R_base2 HO_5.out)); have n3_ := yD (ho); clear HI0; clear HB; clear HK; clear HO_5; have HI0 := n0_; have HB := n1_; have HK := n2_; have HO178 := n3_; clear n0_ n1_ n2_ n3_; clear ho hb hg hat))
       go_roundg k1
       case measure => have := HK1.out; omega
       case rel => exact ⟨(y176), (wrap64 (x6_1 + 1)), (t173), (t174), (by first | rfl | (simp; done) | (simp [*]; done)), H', ⟨by have := HK1.out; omega⟩, ⟨by (with_reducible repeat (first | apply yA | apply yB | apply yC)); exact HO178.out⟩, ⟨kR2 HI0⟩, ⟨kR4 HK⟩, ⟨kR3 HB⟩⟩
      · rw [if_neg c11] at H
        exact absurd H (by simp)
     ·
      replace c9 := Bool.eq_false_iff.mpr c9
      subst c9
      have H1 : (if x5_1.length < 17592186044416 then (spec_l05DrawAt.l0 k1 l1 (x5_1 ++ [t165]) (wrap64 (x6_1 + 1)) s0_0 t169 t170) else (none)) = some (r1, r2, r3) := by rw [if_neg (show ¬ (false = true) by decide)] at H; exact H
      clear H; have H := H1; clear H1
      by_cases c17 : x5_1.length < 17592186044416
      ·
       rw [if_pos c17] at H
       have LMc17 := yD c17
       clear c17
       obtain ⟨y179, hy179⟩ : ∃ y_ : List Int, y_ = (x5_1 ++ [t165]) := ⟨_, rfl⟩
       replace H : (spec_l05DrawAt.l0 k1 l1 y179 (wrap64 (x6_1 + 1)) s0_0 t169 t170) = some (r1, r2, r3) := by first | (rw [hy179]; with_reducible exact H) | (have H2_ := (Option.bind_some _ _).symm.trans H; rw [hy179]; with_reducible exact H2_) | (have H2_ := (Option.bind_some _ _).symm.trans H; with_reducible exact H2_) | with_reducible exact H | (rw [hy179]; exact H) | exact H
       have Ny179 := yD hy179
       clear hy179
       have H' := yD H
       clear H
       have p164 : 0 ≤ (x6_1 : Int) := zP (by assumption)
       have q164 : x6_1 < (l1.length : Int) := zP (by assumption)
       obtain ⟨ad164, e164, hx164_0⟩ := Kd.at_int HR1.out x6_1 p164 q164
       cases e164
       replace hx164_0 := keep_cell HK.out hx164_0 (by first | (rw [add_block]; exact hf1 _ rfl (by omega)) | exact hf1 _ rfl (by omega) | exact hf1 ad164 rfl (by omega))
       replace p164 := eq_true p164; replace q164 := eq_true q164
       go_wp2_with (first | ((with_reducible refine gate_callee (f := 58) rfl ?_); refine goesL_ (some 20) rfl rfl Try.func58 (by kernel_rfl) rfl #[.pointer (some ⟨g, 0, none⟩), .int .i64 (rd l1 x6_1)] rfl (by (try simp only [zK, zL, zM]); first | done | rfl | (simp only [zN, zO]; rfl)) ?_; (with_reducible refine (spec_l00Src_pick.calls g s0_0 x1001_1 x1002_1 (rd l1 x6_1) t165 t166 t167 w0 _ ?side1 ?side2 A7.out).mono ?_); (case side1 => exact kR2 HI0); (case side2 => exact kR3 HB); rintro e w18 ⟨rfl, hi, hb, hk⟩; refine ⟨_, rfl, ?_⟩; have n0_ := yD (zF (Kd.R_keep (IsS92.apart (show IsS92 w0 _ g s0_0 x1001_1 x1002_1 from kR2 HI0) (kA HO_5) (by decide)) hk (fun _ h => h.2)) (fun _ h => h.1)); have n1_ := yD (KeepBut.trans (kR4 HK) hk (.inl rfl)); have n2_ := yD (hb); have n3_ := yD (hi); clear HO_5; clear HK; clear HB; clear HI0; have HO_5 := n0_; have HK := n1_; have HB := n2_; have HI0 := n3_; clear n0_ n1_ n2_ n3_; (try clear hb); (try clear hb2); (try clear hk); (try clear hi)) | ((with_reducible refine gate_callee (f := 57) rfl ?_); refine goesL_ (some 22) rfl rfl Try.func57 (by kernel_rfl) rfl #[.pointer (some ⟨g, 0, none⟩), .int .i64 20] rfl (by (try simp only [zK, zL, zM]); first | done | rfl | (simp only [zN, zO]; rfl)) ?_; (with_reducible refine (spec_l00Src_one.calls g s0_0 t166 t167 20 false t169 t170 w0 _ ?side1 ?side2 A8.out).mono ?_); (case side1 => exact kR2 HI0); (case side2 => exact kR3 HB); rintro e w19 ⟨rfl, hi, hb, hk⟩; refine ⟨_, rfl, ?_⟩; have n0_ := yD (zF (Kd.R_keep (IsS92.apart (show IsS92 w0 _ g s0_0 t166 t167 from kR2 HI0) (kA HO_5) (by decide)) hk (fun _ h => h.2)) (fun _ h => h.1)); have n1_ := yD (KeepBut.trans (kR4 HK) hk (.inl rfl)); have n2_ := yD (hb); have n3_ := yD (hi); clear HO_5; clear HK; clear HB; clear HI0; have HO_5 := n0_; have HK := n1_; have HB := n2_; have HI0 := n3_; clear n0_ n1_ n2_ n3_; (try clear hb); (try clear hb2); (try clear hk); (try clear hi)) | ((with_reducible refine gate_builtin (b := .append) (xs := #[.tmp 36, .tmp 38]) rfl ?_); at_builtin; refine Kd.R_append (Kd.int .i64) w.heap.size rfl (.tmp 36) (.tmp 38) 23 2 (.int .i64 0) 8 rfl Try.underlying23 info2 rfl (by decide) (by omega) u5 x5_1 t165 [.int .i64 t165] (fun _ => True) (fun _ => False) rfl rfl ?aP (fun _ hk => hk.elim) ?aF ?aO (Below.refl _ _) ?aS ?aL ?_; (case aP => exact rfl); (case aF => exact (fun _ _ => trivial)); (case aO => exact (kA HO_5)); (case aS => exact (keep_size (w := w) (g := g) (row := none) (kR4 HK))); (case aL => have := LMc17.out; omega); intro v180 w20 ho hb hg hat; rw [← Ny179.out] at ho; have n0_ := yD (IsS92.grown (kR2 HI0) hg (IsS92.own_ne HI0.out HO_5.out (by decide))); have n1_ := yD (below_weaken (kR3 HB) HL.out hb); have n2_ := yD (KeepBut.trans (kR4 HK) (KeepBut.of_grown hg g) (Kd.R_base2 HO_5.out)); have n3_ := yD (ho); clear HI0; clear HB; clear HK; clear HO_5; have HI0 := n0_; have HB := n1_; have HK := n2_; have HO181 := n3_; clear n0_ n1_ n2_ n3_; clear ho hb hg hat))
       go_roundg k1
       case measure => have := HK1.out; omega
       case rel => exact ⟨(y179), (wrap64 (x6_1 + 1)), (t169), (t170), (by first | rfl | (simp; done) | (simp [*]; done)), H', ⟨by have := HK1.out; omega⟩, ⟨by (with_reducible repeat (first | apply yA | apply yB | apply yC)); exact HO181.out⟩, ⟨kR2 HI0⟩, ⟨kR4 HK⟩, ⟨kR3 HB⟩⟩
      · rw [if_neg c17] at H
        exact absurd H (by simp)
    · rw [if_neg c6] at H
      exact absurd H (by simp)
   ·
    rw [if_neg c5] at H
    have c5b0 : decide (x6_1 < (l1.length : Int)) = false := zS c5; clear c5
    obtain ⟨⟨t158, t159, t160⟩, A210, H⟩ := zW_ H
    replace H : (if t158 = true then (if x5_1.length < 17592186044416 then (some ((x5_1 ++ [0]), t159, t160)) else (none)) else (some (x5_1, t159, t160))) = some (r1, r2, r3) := H
    have A21 := yD A210
    clear A210
    by_cases c22 : t158 = true
    ·
     subst c22
     have H1 : (if x5_1.length < 17592186044416 then (some ((x5_1 ++ [0]), t159, t160)) else (none)) = some (r1, r2, r3) := by rw [if_pos rfl] at H; exact H
     clear H; have H := H1; clear H1
     by_cases c23 : x5_1.length < 17592186044416
     ·
      rw [if_pos c23] at H
      have LMc23 := yD c23
      clear c23
      obtain ⟨y161, hy161⟩ : ∃ y_ : List Int, y_ = (x5_1 ++ [0]) := ⟨_, rfl⟩
      replace H : (some (y161, t159, t160)) = some (r1, r2, r3) := by first | (rw [hy161]; with_reducible exact H) | (have H2_ := (Option.bind_some _ _).symm.trans H; rw [hy161]; with_reducible exact H2_) | (have H2_ := (Option.bind_some _ _).symm.trans H; with_reducible exact H2_) | with_reducible exact H | (rw [hy161]; exact H) | exact H
      have Ny161 := yD hy161
      clear hy161
      simp only [Option.some.injEq, Prod.mk.injEq] at H
      obtain ⟨rfl, rfl, rfl⟩ := H
      go_wp2_with (first | ((with_reducible refine gate_callee (f := 57) rfl ?_); refine goesL_ (some 41) rfl rfl Try.func57 (by kernel_rfl) rfl #[.pointer (some ⟨g, 0, none⟩), .int .i64 20] rfl (by (try simp only [zK, zL, zM]); first | done | rfl | (simp only [zN, zO]; rfl)) ?_; (with_reducible refine (spec_l00Src_one.calls g s0_0 x1001_1 x1002_1 20 true t159 t160 w0 _ ?side1 ?side2 A21.out).mono ?_); (case side1 => exact kR2 HI0); (case side2 => exact kR3 HB); rintro e w24 ⟨rfl, hi, hb, hk⟩; refine ⟨_, rfl, ?_⟩; have n0_ := yD (zF (Kd.R_keep (IsS92.apart (show IsS92 w0 _ g s0_0 x1001_1 x1002_1 from kR2 HI0) (kA HO_5) (by decide)) hk (fun _ h => h.2)) (fun _ h => h.1)); have n1_ := yD (KeepBut.trans (kR4 HK) hk (.inl rfl)); have n2_ := yD (hb); have n3_ := yD (hi); clear HO_5; clear HK; clear HB; clear HI0; have HO_5 := n0_; have HK := n1_; have HB := n2_; have HI0 := n3_; clear n0_ n1_ n2_ n3_; (try clear hb); (try clear hb2); (try clear hk); (try clear hi)) | ((with_reducible refine gate_builtin (b := .append) (xs := #[.tmp 42, .tmp 43]) rfl ?_); at_builtin; refine Kd.R_append (Kd.int .i64) w.heap.size rfl (.tmp 42) (.tmp 43) 23 2 (.int .i64 0) 8 rfl Try.underlying23 info2 rfl (by decide) (by omega) u5 x5_1 0 [.int .i64 0] (fun _ => True) (fun _ => False) rfl rfl ?aP (fun _ hk => hk.elim) ?aF ?aO (Below.refl _ _) ?aS ?aL ?_; (case aP => exact rfl); (case aF => exact (fun _ _ => trivial)); (case aO => exact (kA HO_5)); (case aS => exact (keep_size (w := w) (g := g) (row := none) (kR4 HK))); (case aL => have := LMc23.out; omega); intro v162 w25 ho hb hg hat; rw [← Ny161.out] at ho; have n0_ := yD (IsS92.grown (kR2 HI0) hg (IsS92.own_ne HI0.out HO_5.out (by decide))); have n1_ := yD (below_weaken (kR3 HB) HL.out hb); have n2_ := yD (KeepBut.trans (kR4 HK) (KeepBut.of_grown hg g) (Kd.R_base2 HO_5.out)); have n3_ := yD (ho); clear HI0; clear HB; clear HK; clear HO_5; have HI0 := n0_; have HB := n1_; have HK := n2_; have HO163 := n3_; clear n0_ n1_ n2_ n3_; clear ho hb hg hat))
      go_ret
      exact ⟨_, by first | rfl | (simp <;> rfl) | (simp [*] <;> rfl), by (with_reducible repeat (first | apply yA | apply yB | apply yC)); exact HO163.out, kR2 HI0, kR3 HB, kR4 HK⟩
     · rw [if_neg c23] at H
       exact absurd H (by simp)
    ·
     replace c22 := Bool.eq_false_iff.mpr c22
     subst c22
     have H1 : (some (x5_1, t159, t160)) = some (r1, r2, r3) := by rw [if_neg (show ¬ (false = true) by decide)] at H; exact H
     clear H; have H := H1; clear H1
     simp only [Option.some.injEq, Prod.mk.injEq] at H
     obtain ⟨rfl, rfl, rfl⟩ := H
     go_wp2_with (first | ((with_reducible refine gate_callee (f := 57) rfl ?_); refine goesL_ (some 41) rfl rfl Try.func57 (by kernel_rfl) rfl #[.pointer (some ⟨g, 0, none⟩), .int .i64 20] rfl (by (try simp only [zK, zL, zM]); first | done | rfl | (simp only [zN, zO]; rfl)) ?_; (with_reducible refine (spec_l00Src_one.calls g s0_0 x1001_1 x1002_1 20 false t159 t160 w0 _ ?side1 ?side2 A21.out).mono ?_); (case side1 => exact kR2 HI0); (case side2 => exact kR3 HB); rintro e w26 ⟨rfl, hi, hb, hk⟩; refine ⟨_, rfl, ?_⟩; have n0_ := yD (zF (Kd.R_keep (IsS92.apart (show IsS92 w0 _ g s0_0 x1001_1 x1002_1 from kR2 HI0) (kA HO_5) (by decide)) hk (fun _ h => h.2)) (fun _ h => h.1)); have n1_ := yD (KeepBut.trans (kR4 HK) hk (.inl rfl)); have n2_ := yD (hb); have n3_ := yD (hi); clear HO_5; clear HK; clear HB; clear HI0; have HO_5 := n0_; have HK := n1_; have HB := n2_; have HI0 := n3_; clear n0_ n1_ n2_ n3_; (try clear hb); (try clear hb2); (try clear hk); (try clear hi)))
     go_ret
     exact ⟨_, by first | rfl | (simp <;> rfl) | (simp [*] <;> rfl), by (with_reducible repeat (first | apply yA | apply yB | apply yC)); exact HO_5.out, kR2 HI0, kR3 HB, kR4 HK⟩

end Go.Proofs.Ytgpkkplabnliiaa.PFnRanges
