/- Each Go function here comes to what the plain function of its name says, where that says something. Made by a program of this session, over the print. -/
import Derived.Test.YtdiaebjbiddefaaPFnSlabAlgebrax0
namespace Go.Proofs.Ytdiaebjbiddefaa.PFnSlabAlgebra
open Go.RowKit Go.Proofs.YtdiaebjbiddefaaW.PrintWords Go.Proofs.YtdiaebjbiddefaaW.PrintLast Go.Proofs.YtdiaebjbiddefaaW.PrintMore
attribute [local go_sem] max2_int min2_int max_two min_two max_three min_three max_four min_four   -- for this text's walks alone
set_option linter.unusedVariables false
set_option linter.unusedSimpArgs false

/-- A state of type 101 at block g of W; what its slices lead to came in by w0. -/
def IsS101 (w0 W : World) (g : Nat) (f0 : List Int) (f1 : Int) (f2 : Int) : Prop := ∃ A0 c0, W.heap[g]? = some (.cells #[.slice A0 f0.length c0, .int .i64 f1, .int .u64 f2] 101 (0, 0)) ∧ w0.heap.size ≤ g ∧ Kd.C (Kd.int .u8) w0 A0 f0.length f0
theorem IsS101.grown {w0 W : World} {g : Nat} {f0 : List Int} {f1 : Int} {f2 : Int} {W1 : World} {row : Option Nat} (h : IsS101 w0 W g f0 f1 f2) (hw : W.grownBy W1 row) (hne : some g ≠ row) : IsS101 w0 W1 g f0 f1 f2 := by
 obtain ⟨A0, c0, hb, hg, hr0⟩ := h
 exact ⟨A0, c0, blk_grown hb hw hne, hg, hr0⟩
theorem IsS101.own_neN {w0 W : World} {g : Nat} {f0 : List Int} {f1 : Int} {f2 : Int} {α : Type} {d : Kd α} {e : Nat} {base : Nat} {ok : Nat → Prop} {v : Value} {xs : List α} (h : IsS101 w0 W g f0 f1 f2) (ho : Kd.N d e W base ok v xs) (ht : e ≠ 101) : some g ≠ v.ownBlock := by
 obtain ⟨A0, c0, hb, hg, hr0⟩ := h
 exact Kd.N_ne ho hb ht
theorem IsS101.fresh {w0 W : World} {g : Nat} {f0 : List Int} {f1 : Int} {f2 : Int} (h : IsS101 w0 W g f0 f1 f2) : ∀ k, W.heap.size ≤ k → k ≠ g := by
 obtain ⟨A0, c0, hb, hg, hr0⟩ := h
 exact Kd.freshB hb
theorem IsS101.kept {w0 W : World} {g : Nat} {f0 : List Int} {f1 : Int} {f2 : Int} {W1 : World} {S : Nat → Prop} (h : IsS101 w0 W g f0 f1 f2) (hk : Kept W W1 S) (hne : ¬ S g) : IsS101 w0 W1 g f0 f1 f2 := by
 obtain ⟨A0, c0, hb, hg, hr0⟩ := h
 exact ⟨A0, c0, blk_kept hb hk hne, hg, hr0⟩
theorem IsS101.below {w0 W : World} {g : Nat} {f0 : List Int} {f1 : Int} {f2 : Int} {W1 : World} (h : IsS101 w0 W g f0 f1 f2) (hw : Below W.heap.size W W1) : IsS101 w0 W1 g f0 f1 f2 := h.grown (grown_of_below hw none) (by simp)
theorem IsS101.alloc {w0 W : World} {g : Nat} {f0 : List Int} {f1 : Int} {f2 : Int} (h : IsS101 w0 W g f0 f1 f2) (o : Obj) : IsS101 w0 (W.alloc o) g f0 f1 f2 := h.below (below_alloc (Below.refl _ _) o)
theorem IsS101.drewN {w0 W : World} {g : Nat} {f0 : List Int} {f1 : Int} {f2 : Int} (h : IsS101 w0 W g f0 f1 f2) (m : Nat) : IsS101 w0 (W.drewN m) g f0 f1 f2 := h
theorem IsS101.drew {w0 W : World} {g : Nat} {f0 : List Int} {f1 : Int} {f2 : Int} (h : IsS101 w0 W g f0 f1 f2) : IsS101 w0 W.drew g f0 f1 f2 := h
theorem IsS101.at_ {w0 W : World} {g : Nat} {f0 : List Int} {f1 : Int} {f2 : Int} {w' : World} {m : Nat} (hq : W.drewN m = w') (h : IsS101 w0 W g f0 f1 f2) : IsS101 w0 w' g f0 f1 f2 := by subst hq; exact IsS101.drewN h m
theorem IsS101.apart {w0 W : World} {g : Nat} {f0 : List Int} {f1 : Int} {f2 : Int} {α : Type} {d : Kd α} {e : Nat} {base : Nat} {ok : Nat → Prop} {v : Value} {xs : List α} (h : IsS101 w0 W g f0 f1 f2) (ho : d.R e W base ok v xs) (ht : ∀ q, q ∈ e :: d.E → q ≠ 101) : d.R e W base (fun k => ok k ∧ k ≠ g) v xs := by
 obtain ⟨A0, c0, hb, hg, hr0⟩ := h
 exact Kd.R_types ho hb ht
theorem IsS101.own_ne {w0 W : World} {g : Nat} {f0 : List Int} {f1 : Int} {f2 : Int} {α : Type} {d : Kd α} {e : Nat} {base : Nat} {ok : Nat → Prop} {v : Value} {xs : List α} (h : IsS101 w0 W g f0 f1 f2) (ho : d.R e W base ok v xs) (ht : e ≠ 101) : some g ≠ v.ownBlock := by
 obtain ⟨A0, c0, hb, hg, hr0⟩ := h
 exact Kd.R_ne ho hb ht
theorem IsS101.apartQ {w0 W : World} {g : Nat} {f0 : List Int} {f1 : Int} {f2 : Int} {α : Type} {d : Kd α} {e : Nat} {base : Nat} {ok : Nat → Prop} {v : Value} {xs : List α} (h : IsS101 w0 W g f0 f1 f2) (ho : d.Q e W base ok v xs) (ht : ∀ q, q ∈ e :: d.E → q ≠ 101) : d.Q e W base (fun k => ok k ∧ k ≠ g) v xs := by
 obtain ⟨A0, c0, hb, hg, hr0⟩ := h
 exact Kd.Q_types ho hb ht
theorem IsS101.own_neQ {w0 W : World} {g : Nat} {f0 : List Int} {f1 : Int} {f2 : Int} {α : Type} {d : Kd α} {e : Nat} {base : Nat} {ok : Nat → Prop} {v : Value} {xs : List α} (h : IsS101 w0 W g f0 f1 f2) (ho : d.Q e W base ok v xs) (ht : e ≠ 101) : some g ≠ v.ownBlock := by
 obtain ⟨A0, c0, hb, hg, hr0⟩ := h
 exact Kd.Q_ne ho hb ht
theorem IsS101.apartS {w0 W : World} {g : Nat} {f0 : List Int} {f1 : Int} {f2 : Int} {α : Type} {d : Kd α} {e : Nat} {base : Nat} {ok : Nat → Prop} {v : Value} {xs : List α} (h : IsS101 w0 W g f0 f1 f2) (ho : d.S e W base ok v xs) (ht : ∀ q, q ∈ e :: d.E → q ≠ 101) : d.S e W base (fun k => ok k ∧ k ≠ g) v xs := by
 obtain ⟨A0, c0, hb, hg, hr0⟩ := h
 exact Kd.S_types ho hb ht
theorem IsS101.own_neS {w0 W : World} {g : Nat} {f0 : List Int} {f1 : Int} {f2 : Int} {α : Type} {d : Kd α} {e : Nat} {base : Nat} {ok : Nat → Prop} {v : Value} {xs : List α} (h : IsS101 w0 W g f0 f1 f2) (ho : d.S e W base ok v xs) (ht : e ≠ 101) : some g ≠ v.ownBlock := by
 obtain ⟨A0, c0, hb, hg, hr0⟩ := h
 exact Kd.S_ne ho hb ht
theorem IsS101.lt {w0 W : World} {g : Nat} {f0 : List Int} {f1 : Int} {f2 : Int} (h : IsS101 w0 W g f0 f1 f2) : g < W.heap.size := by
 obtain ⟨A0, c0, hb, hg, hr0⟩ := h
 exact blk_lt hb
theorem IsS101.ge {w0 W : World} {g : Nat} {f0 : List Int} {f1 : Int} {f2 : Int} (h : IsS101 w0 W g f0 f1 f2) : w0.heap.size ≤ g := by
 obtain ⟨A0, c0, hb, hg, hr0⟩ := h
 exact hg
theorem IsS101.ne_blk {w0 W : World} {g : Nat} {f0 : List Int} {f1 : Int} {f2 : Int} {a : Nat} {cs : Array Value} {t : TypeId} {fr : Nat × Nat} (h : IsS101 w0 W g f0 f1 f2) (hb2 : W.heap[a]? = some (.cells cs t fr)) (ht : t ≠ 101) : g ≠ a := by
 obtain ⟨A0, c0, hb, hg, hr0⟩ := h
 rintro rfl
 rw [hb] at hb2
 injection hb2 with hb2
 injection hb2 with _ ht2
 exact ht ht2.symm
theorem IsS101.far {w0 W : World} {g : Nat} {f0 : List Int} {f1 : Int} {f2 : Int} {p : Addr} (h : IsS101 w0 W g f0 f1 f2) (hne : g ≠ p.block) (u : Value) : IsS101 w0 (W.setCell p u) g f0 f1 f2 := by
 obtain ⟨A0, c0, hb, hg, hr0⟩ := h
 exact ⟨A0, c0, blk_far hb hne u, hg, hr0⟩
theorem cellS101_0 {W : World} {g : Nat} {A0 : Option Addr} {c0 : Nat} {f0 : List Int} {f1 : Int} {f2 : Int} (h : W.heap[g]? = some (.cells #[.slice A0 f0.length c0, .int .i64 f1, .int .u64 f2] 101 (0, 0))) : W.cell? ⟨g, 0, none⟩ = some (.slice A0 f0.length c0) := (blk_cell h 0).trans rfl
theorem cellS101_1 {W : World} {g : Nat} {A0 : Option Addr} {c0 : Nat} {f0 : List Int} {f1 : Int} {f2 : Int} (h : W.heap[g]? = some (.cells #[.slice A0 f0.length c0, .int .i64 f1, .int .u64 f2] 101 (0, 0))) : W.cell? ⟨g, 1, none⟩ = some (.int .i64 f1) := (blk_cell h 1).trans rfl
theorem IsS101.set_1 {w0 W : World} {g : Nat} {f0 : List Int} {f1 : Int} {f2 : Int} (h : IsS101 w0 W g f0 f1 f2) (x : Int) : IsS101 w0 (W.setCell ⟨g, 1, none⟩ (.int .i64 x)) g f0 x f2 := by
 obtain ⟨A0, c0, hb, hg, hr0⟩ := h
 exact ⟨A0, c0, by simpa using blk_set hb 1 (.int .i64 x), hg, hr0⟩
theorem cellS101_2 {W : World} {g : Nat} {A0 : Option Addr} {c0 : Nat} {f0 : List Int} {f1 : Int} {f2 : Int} (h : W.heap[g]? = some (.cells #[.slice A0 f0.length c0, .int .i64 f1, .int .u64 f2] 101 (0, 0))) : W.cell? ⟨g, 2, none⟩ = some (.int .u64 f2) := (blk_cell h 2).trans rfl
theorem IsS101.set_2 {w0 W : World} {g : Nat} {f0 : List Int} {f1 : Int} {f2 : Int} (h : IsS101 w0 W g f0 f1 f2) (x : Int) : IsS101 w0 (W.setCell ⟨g, 2, none⟩ (.int .u64 x)) g f0 f1 x := by
 obtain ⟨A0, c0, hb, hg, hr0⟩ := h
 exact ⟨A0, c0, by simpa using blk_set hb 2 (.int .u64 x), hg, hr0⟩
theorem IsS101.new (w0 W : World) (A0 : Option Addr) (c0 : Nat) (f0 : List Int) (f1 : Int) (f2 : Int) (hB : Below w0.heap.size w0 W) (hr0 : Kd.C (Kd.int .u8) w0 A0 f0.length f0) : IsS101 w0 (W.alloc (.cells #[.slice A0 f0.length c0, .int .i64 f1, .int .u64 f2] 101)) W.heap.size f0 f1 f2 := ⟨A0, c0, by simpa using heap_alloc_new W _, hB.size, hr0⟩

/-! ### spec_l00From: function 60 -/
def spec_l00From.f (l0 : List Int) : Option (List Int × Int × Int) := some (l0, 0, 0)
set_option maxHeartbeats 8000000 in
set_option maxRecDepth 100000 in
theorem spec_l00From.calls (A0 : Option Addr) (c0 : Nat) (l0 : List Int) (r1 : List Int) (r2 : Int) (r3 : Int) (w0 w : World) (hB : Below w0.heap.size w0 w) (hr0 : Kd.C (Kd.int .u8) w0 A0 l0.length l0) (hc0 : l0.length ≤ c0) (h : spec_l00From.f l0 = some (r1, r2, r3)) :
 Calls Try.prog 60 #[.slice A0 l0.length c0] w fun e w' => ∃ g_ : Nat, e = .returned (.pointer (some ⟨g_, 0, none⟩)) ∧ IsS101 w0 w' g_ r1 r2 r3 ∧ Below w0.heap.size w0 w' ∧ Below w.heap.size w w' := by
 have hu101 := Try.underlying101
 have HR0 := yD hr0
 have HC0 := yD hc0
 clear hr0 hc0
 have HBW := yD (Below.refl w.heap.size w)
 have HW0 := yD hB.size
 have HB := yD hB
 clear hB
 have H : (some (l0, 0, 0)) = some (r1, r2, r3) := h
 clear h
 simp only [Option.some.injEq, Prod.mk.injEq] at H
 obtain ⟨rfl, rfl, rfl⟩ := H
 go_enter Try.func60, Try.ntmps60
 go_wp2_with (first | ((with_reducible refine gate_dst (N := 5) rfl ?_); refine box_event ?hg (N := 5) ?hd (cs := #[.slice A0 l0.length c0, .int .i64 0, .int .u64 0]) (t := 101) ?hr ?_; (case hd => rfl); (case hg => rfl); (case hr => first | (go_simp; done) | (go_simp; rfl)); intro gb101 hg w2 hbox hb; replace HB := yD (zC (kB HB) hb); have BK101 := yD (hbox); have GW101 := yD ((by rw [hg]; exact (below_size (kR0 HBW)) : w.heap.size ≤ gb101)); have GE101 := yD ((Nat.le_trans HW0.out (by rw [hg]; exact (below_size (kR0 HBW)) : w.heap.size ≤ gb101) : w0.heap.size ≤ gb101)); replace HBW := yD (zC HBW.out hb); clear hb hbox hg))
 go_ret
 exact ⟨_, rfl, (show IsS101 w0 _ gb101 l0 0 0 from ⟨_, _, kM BK101, GE101.out, HR0.out⟩), kR1 HB, kR1 HBW⟩

/-! ### spec_l00Src_next: function 132 -/
def spec_l00Src_next.f (s0_0 : List Int) (s0_1 : Int) (s0_2 : Int) : Option (Int × Int × Int) := if s0_1 < (s0_0.length : Int) then (if 0 ≤ s0_1 then (if (wrap64 (s0_1 + 1)) ≤ (s0_0.length : Int) then (some (wrap64 (rd s0_0 s0_1), wrap64 (s0_1 + 1), IntKind.u64.wrap ((IntKind.u64.wrap ((IntKind.u64.wrap (s0_2 * 6364136223846793005)) + (IntKind.u64.wrap (wrap64 (rd s0_0 s0_1))))) + 1442695040888963407))) else (some (wrap64 (Go.bits .and .u64 ((IntKind.u64.wrap ((IntKind.u64.wrap ((IntKind.u64.wrap (s0_2 * 6364136223846793005)) + (IntKind.u64.wrap (wrap64 (rd s0_0 s0_1))))) + 1442695040888963407)) / 1099511627776) 255), wrap64 (s0_1 + 1), IntKind.u64.wrap ((IntKind.u64.wrap ((IntKind.u64.wrap (s0_2 * 6364136223846793005)) + (IntKind.u64.wrap (wrap64 (rd s0_0 s0_1))))) + 1442695040888963407)))) else (none)) else (if (wrap64 (s0_1 + 1)) ≤ (s0_0.length : Int) then (some (0, wrap64 (s0_1 + 1), IntKind.u64.wrap ((IntKind.u64.wrap (IntKind.u64.wrap (s0_2 * 6364136223846793005))) + 1442695040888963407))) else (some (wrap64 (Go.bits .and .u64 ((IntKind.u64.wrap ((IntKind.u64.wrap (IntKind.u64.wrap (s0_2 * 6364136223846793005))) + 1442695040888963407)) / 1099511627776) 255), wrap64 (s0_1 + 1), IntKind.u64.wrap ((IntKind.u64.wrap (IntKind.u64.wrap (s0_2 * 6364136223846793005))) + 1442695040888963407))))
set_option maxHeartbeats 8000000 in
set_option maxRecDepth 100000 in
theorem spec_l00Src_next.calls (g : Nat) (s0_0 : List Int) (s0_1 : Int) (s0_2 : Int) (r1 : Int) (r2 : Int) (r3 : Int) (w0 w : World) (hI : IsS101 w0 w g s0_0 s0_1 s0_2) (hB : Below w0.heap.size w0 w) (h : spec_l00Src_next.f s0_0 s0_1 s0_2 = some (r1, r2, r3)) :
 Calls Try.prog 132 #[.pointer (some ⟨g, 0, none⟩)] w fun e w' => e = .returned (.int .i64 r1) ∧ IsS101 w0 w' g s0_0 r2 r3 ∧ Below w0.heap.size w0 w' ∧ KeepBut w w' g none := by
 have HI0 := yD hI
 have HK := yD (KeepBut.refl w g none)
 have HL := yD hB.size
 clear hI
 have HW0 := yD hB.size
 have HB := yD hB
 clear hB
 have H : (if s0_1 < (s0_0.length : Int) then (if 0 ≤ s0_1 then (if (wrap64 (s0_1 + 1)) ≤ (s0_0.length : Int) then (some (wrap64 (rd s0_0 s0_1), wrap64 (s0_1 + 1), IntKind.u64.wrap ((IntKind.u64.wrap ((IntKind.u64.wrap (s0_2 * 6364136223846793005)) + (IntKind.u64.wrap (wrap64 (rd s0_0 s0_1))))) + 1442695040888963407))) else (some (wrap64 (Go.bits .and .u64 ((IntKind.u64.wrap ((IntKind.u64.wrap ((IntKind.u64.wrap (s0_2 * 6364136223846793005)) + (IntKind.u64.wrap (wrap64 (rd s0_0 s0_1))))) + 1442695040888963407)) / 1099511627776) 255), wrap64 (s0_1 + 1), IntKind.u64.wrap ((IntKind.u64.wrap ((IntKind.u64.wrap (s0_2 * 6364136223846793005)) + (IntKind.u64.wrap (wrap64 (rd s0_0 s0_1))))) + 1442695040888963407)))) else (none)) else (if (wrap64 (s0_1 + 1)) ≤ (s0_0.length : Int) then (some (0, wrap64 (s0_1 + 1), IntKind.u64.wrap ((IntKind.u64.wrap (IntKind.u64.wrap (s0_2 * 6364136223846793005))) + 1442695040888963407))) else (some (wrap64 (Go.bits .and .u64 ((IntKind.u64.wrap ((IntKind.u64.wrap (IntKind.u64.wrap (s0_2 * 6364136223846793005))) + 1442695040888963407)) / 1099511627776) 255), wrap64 (s0_1 + 1), IntKind.u64.wrap ((IntKind.u64.wrap (IntKind.u64.wrap (s0_2 * 6364136223846793005))) + 1442695040888963407))))) = some (r1, r2, r3) := h
 clear h
 by_cases c2 : s0_1 < (s0_0.length : Int)
 ·
  rw [if_pos c2] at H
  have c2b0 : decide (s0_1 < (s0_0.length : Int)) = true := zR c2; clear c2
  by_cases c3 : 0 ≤ s0_1
  ·
   rw [if_pos c3] at H
   have c3b0 : decide (0 ≤ s0_1) = true := zR c3; clear c3
   by_cases c4 : (wrap64 (s0_1 + 1)) ≤ (s0_0.length : Int)
   ·
    rw [if_pos c4] at H
    have c4b0 : decide ((wrap64 (s0_1 + 1)) ≤ (s0_0.length : Int)) = true := zR c4; clear c4
    simp only [Option.some.injEq, Prod.mk.injEq] at H
    obtain ⟨rfl, rfl, rfl⟩ := H
    obtain ⟨ASz5_0, cSz5_0, HGz5, hgz5, HSz5_0⟩ := HI0.out
    have hcz5_0 := cellS101_0 HGz5
    have hcz5_1 := cellS101_1 HGz5
    have hcz5_2 := cellS101_2 HGz5
    have hfz5_1 := yR HGz5 1
    have hfz5_2 := yR HGz5 2
    clear HGz5 hgz5
    have p102 : 0 ≤ (s0_1 : Int) := zP (by assumption)
    have q102 : s0_1 < (s0_0.length : Int) := zP (by assumption)
    obtain ⟨ad102, e102, hx102_0⟩ := Kd.at_int HSz5_0 s0_1 p102 q102
    cases e102
    replace hx102_0 := pw_cell_below HB.out hx102_0
    replace p102 := eq_true p102; replace q102 := eq_true q102; go_enter Try.func132, Try.ntmps132
    go_wp2
    repeat (go_quiet (fail); try go_wp2)
    go_ret
    exact ⟨by first | rfl | (simp <;> rfl) | (simp [*] <;> rfl), kR2 HI0, kR3 HB, kR4 HK⟩
   ·
    rw [if_neg c4] at H
    have c4b0 : decide ((wrap64 (s0_1 + 1)) ≤ (s0_0.length : Int)) = false := zS c4; clear c4
    simp only [Option.some.injEq, Prod.mk.injEq] at H
    obtain ⟨rfl, rfl, rfl⟩ := H
    obtain ⟨ASz6_0, cSz6_0, HGz6, hgz6, HSz6_0⟩ := HI0.out
    have hcz6_0 := cellS101_0 HGz6
    have hcz6_1 := cellS101_1 HGz6
    have hcz6_2 := cellS101_2 HGz6
    have hfz6_1 := yR HGz6 1
    have hfz6_2 := yR HGz6 2
    clear HGz6 hgz6
    have p102 : 0 ≤ (s0_1 : Int) := zP (by assumption)
    have q102 : s0_1 < (s0_0.length : Int) := zP (by assumption)
    obtain ⟨ad102, e102, hx102_0⟩ := Kd.at_int HSz6_0 s0_1 p102 q102
    cases e102
    replace hx102_0 := pw_cell_below HB.out hx102_0
    replace p102 := eq_true p102; replace q102 := eq_true q102; go_enter Try.func132, Try.ntmps132
    go_wp2
    repeat (go_quiet (fail); try go_wp2)
    go_ret
    exact ⟨by first | rfl | (simp <;> rfl) | (simp [*] <;> rfl), kR2 HI0, kR3 HB, kR4 HK⟩
  · rw [if_neg c3] at H
    exact absurd H (by simp)
 ·
  rw [if_neg c2] at H
  have c2b0 : decide (s0_1 < (s0_0.length : Int)) = false := zS c2; clear c2
  by_cases c7 : (wrap64 (s0_1 + 1)) ≤ (s0_0.length : Int)
  ·
   rw [if_pos c7] at H
   have c7b0 : decide ((wrap64 (s0_1 + 1)) ≤ (s0_0.length : Int)) = true := zR c7; clear c7
   simp only [Option.some.injEq, Prod.mk.injEq] at H
   obtain ⟨rfl, rfl, rfl⟩ := H
   obtain ⟨ASz8_0, cSz8_0, HGz8, hgz8, HSz8_0⟩ := HI0.out
   have hcz8_0 := cellS101_0 HGz8
   have hcz8_1 := cellS101_1 HGz8
   have hcz8_2 := cellS101_2 HGz8
   have hfz8_1 := yR HGz8 1
   have hfz8_2 := yR HGz8 2
   clear HGz8 hgz8; go_enter Try.func132, Try.ntmps132
   go_wp2
   repeat (go_quiet (fail); try go_wp2)
   go_ret
   exact ⟨by first | rfl | (simp <;> rfl) | (simp [*] <;> rfl), kR2 HI0, kR3 HB, kR4 HK⟩
  ·
   rw [if_neg c7] at H
   have c7b0 : decide ((wrap64 (s0_1 + 1)) ≤ (s0_0.length : Int)) = false := zS c7; clear c7
   simp only [Option.some.injEq, Prod.mk.injEq] at H
   obtain ⟨rfl, rfl, rfl⟩ := H
   obtain ⟨ASz9_0, cSz9_0, HGz9, hgz9, HSz9_0⟩ := HI0.out
   have hcz9_0 := cellS101_0 HGz9
   have hcz9_1 := cellS101_1 HGz9
   have hcz9_2 := cellS101_2 HGz9
   have hfz9_1 := yR HGz9 1
   have hfz9_2 := yR HGz9 2
   clear HGz9 hgz9; go_enter Try.func132, Try.ntmps132
   go_wp2
   repeat (go_quiet (fail); try go_wp2)
   go_ret
   exact ⟨by first | rfl | (simp <;> rfl) | (simp [*] <;> rfl), kR2 HI0, kR3 HB, kR4 HK⟩

/-! ### spec_l00Src_pick: function 101 -/
def spec_l00Src_pick.f (s0_0 : List Int) (s0_1 : Int) (s0_2 : Int) (a1 : Int) : Option (Int × Int × Int) := if a1 ≤ 1 then (some (0, s0_1, s0_2)) else ((spec_l00Src_next.f s0_0 s0_1 s0_2).bind fun bt103 => (if a1 > 200 then ((spec_l00Src_next.f s0_0 bt103.2.1 bt103.2.2).bind fun bt106 => (if a1 = 0 then (none) else (some (Int.tmod (wrap64 ((wrap64 (bt103.1 * 256)) + bt106.1)) a1, bt106.2.1, bt106.2.2)))) else (if a1 = 0 then (none) else (some (Int.tmod bt103.1 a1, bt103.2.1, bt103.2.2)))))
set_option maxHeartbeats 8000000 in
set_option maxRecDepth 100000 in
theorem spec_l00Src_pick.calls (g : Nat) (s0_0 : List Int) (s0_1 : Int) (s0_2 : Int) (a1 : Int) (r1 : Int) (r2 : Int) (r3 : Int) (w0 w : World) (hI : IsS101 w0 w g s0_0 s0_1 s0_2) (hB : Below w0.heap.size w0 w) (h : spec_l00Src_pick.f s0_0 s0_1 s0_2 a1 = some (r1, r2, r3)) :
 Calls Try.prog 101 #[.pointer (some ⟨g, 0, none⟩), .int .i64 a1] w fun e w' => e = .returned (.int .i64 r1) ∧ IsS101 w0 w' g s0_0 r2 r3 ∧ Below w0.heap.size w0 w' ∧ KeepBut w w' g none := by
 have HI0 := yD hI
 have HK := yD (KeepBut.refl w g none)
 have HL := yD hB.size
 clear hI
 have HW0 := yD hB.size
 have HB := yD hB
 clear hB
 have H : (if a1 ≤ 1 then (some (0, s0_1, s0_2)) else ((spec_l00Src_next.f s0_0 s0_1 s0_2).bind fun bt103 => (if a1 > 200 then ((spec_l00Src_next.f s0_0 bt103.2.1 bt103.2.2).bind fun bt106 => (if a1 = 0 then (none) else (some (Int.tmod (wrap64 ((wrap64 (bt103.1 * 256)) + bt106.1)) a1, bt106.2.1, bt106.2.2)))) else (if a1 = 0 then (none) else (some (Int.tmod bt103.1 a1, bt103.2.1, bt103.2.2)))))) = some (r1, r2, r3) := h
 clear h
 by_cases c3 : a1 ≤ 1
 ·
  rw [if_pos c3] at H
  have c3b0 : decide (a1 ≤ 1) = true := zR c3; clear c3
  simp only [Option.some.injEq, Prod.mk.injEq] at H
  obtain ⟨rfl, rfl, rfl⟩ := H
  go_enter Try.func101, Try.ntmps101
  go_wp2
  go_ret
  exact ⟨by first | rfl | (simp <;> rfl) | (simp [*] <;> rfl), kR2 HI0, kR3 HB, kR4 HK⟩
 ·
  rw [if_neg c3] at H
  have c3b0 : decide (a1 ≤ 1) = false := zS c3; clear c3
  obtain ⟨⟨t103, t104, t105⟩, A40, H⟩ := zW_ H
  replace H : (if a1 > 200 then ((spec_l00Src_next.f s0_0 t104 t105).bind fun bt106 => (if a1 = 0 then (none) else (some (Int.tmod (wrap64 ((wrap64 (t103 * 256)) + bt106.1)) a1, bt106.2.1, bt106.2.2)))) else (if a1 = 0 then (none) else (some (Int.tmod t103 a1, t104, t105)))) = some (r1, r2, r3) := H
  have A4 := yD A40
  clear A40
  by_cases c5 : a1 > 200
  ·
   rw [if_pos c5] at H
   have c5b0 : decide (200 < a1) = true := zR c5; clear c5
   obtain ⟨⟨t106, t107, t108⟩, A60, H⟩ := zW_ H
   replace H : (if a1 = 0 then (none) else (some (Int.tmod (wrap64 ((wrap64 (t103 * 256)) + t106)) a1, t107, t108))) = some (r1, r2, r3) := H
   have A6 := yD A60
   clear A60
   by_cases c7 : a1 = 0
   · rw [if_pos c7] at H
     exact absurd H (by simp)
   ·
    rw [if_neg c7] at H
    have c7b0 : (a1 == 0) = false := beq_eq_false_iff_ne.mpr c7
    have c7b1 : (a1 != 0) = true := bne_iff_ne.mpr c7
    simp only [Option.some.injEq, Prod.mk.injEq] at H
    obtain ⟨rfl, rfl, rfl⟩ := H
    go_enter Try.func101, Try.ntmps101
    go_wp2_with (first | ((with_reducible refine gate_callee (f := 132) rfl ?_); refine gL 9 Try.func132 #[.pointer (some ⟨g, 0, none⟩)] ?_; (with_reducible refine (spec_l00Src_next.calls g s0_0 s0_1 s0_2 t103 t104 t105 w0 _ ?side1 ?side2 A4.out).mono ?_); (case side1 => exact kR2 HI0); (case side2 => exact kR3 HB); rintro e w8 ⟨rfl, hi, hb, hk⟩; refine ⟨_, rfl, ?_⟩; replace HK := yD (KeepBut.trans (kR4 HK) hk (.inl rfl)); replace HB := yD (hb); replace HI0 := yD (hi); clear hb hk hi) | ((with_reducible refine gate_callee (f := 132) rfl ?_); refine gL 15 Try.func132 #[.pointer (some ⟨g, 0, none⟩)] ?_; (with_reducible refine (spec_l00Src_next.calls g s0_0 t104 t105 t106 t107 t108 w0 _ ?side1 ?side2 A6.out).mono ?_); (case side1 => exact kR2 HI0); (case side2 => exact kR3 HB); rintro e w9 ⟨rfl, hi, hb, hk⟩; refine ⟨_, rfl, ?_⟩; replace HK := yD (KeepBut.trans (kR4 HK) hk (.inl rfl)); replace HB := yD (hb); replace HI0 := yD (hi); clear hb hk hi))
    go_ret
    exact ⟨by first | rfl | (simp <;> rfl) | (simp [*] <;> rfl), kR2 HI0, kR3 HB, kR4 HK⟩
  ·
   rw [if_neg c5] at H
   have c5b0 : decide (200 < a1) = false := zS c5; clear c5
   by_cases c10 : a1 = 0
   · rw [if_pos c10] at H
     exact absurd H (by simp)
   ·
    rw [if_neg c10] at H
    have c10b0 : (a1 == 0) = false := beq_eq_false_iff_ne.mpr c10
    have c10b1 : (a1 != 0) = true := bne_iff_ne.mpr c10
    simp only [Option.some.injEq, Prod.mk.injEq] at H
    obtain ⟨rfl, rfl, rfl⟩ := H
    go_enter Try.func101, Try.ntmps101
    go_wp2_with (first | ((with_reducible refine gate_callee (f := 132) rfl ?_); refine gL 9 Try.func132 #[.pointer (some ⟨g, 0, none⟩)] ?_; (with_reducible refine (spec_l00Src_next.calls g s0_0 s0_1 s0_2 t103 t104 t105 w0 _ ?side1 ?side2 A4.out).mono ?_); (case side1 => exact kR2 HI0); (case side2 => exact kR3 HB); rintro e w11 ⟨rfl, hi, hb, hk⟩; refine ⟨_, rfl, ?_⟩; replace HK := yD (KeepBut.trans (kR4 HK) hk (.inl rfl)); replace HB := yD (hb); replace HI0 := yD (hi); clear hb hk hi))
    go_ret
    exact ⟨by first | rfl | (simp <;> rfl) | (simp [*] <;> rfl), kR2 HI0, kR3 HB, kR4 HK⟩

/-! ### spec_l00Src_among: function 100 -/
def spec_l00Src_among.f (s0_0 : List Int) (s0_1 : Int) (s0_2 : Int) (l1 : List Int) : Option (Int × Int × Int) := (spec_l00Src_pick.f s0_0 s0_1 s0_2 (l1.length : Int)).bind fun bt109 => (if 0 ≤ bt109.1 then (if bt109.1 < (l1.length : Int) then (some (rd l1 bt109.1, bt109.2.1, bt109.2.2)) else (none)) else (none))
set_option maxHeartbeats 8000000 in
set_option maxRecDepth 100000 in
theorem spec_l00Src_among.calls (g : Nat) (s0_0 : List Int) (s0_1 : Int) (s0_2 : Int) (A1 : Option Addr) (c1 : Nat) (l1 : List Int) (r1 : Int) (r2 : Int) (r3 : Int) (w0 w : World) (hI : IsS101 w0 w g s0_0 s0_1 s0_2) (hB : Below w0.heap.size w0 w) (hr1 : Kd.C (Kd.int .i64) w A1 l1.length l1) (hc1 : l1.length ≤ c1) (hf1 : ∀ ad, A1 = some ad → 0 < l1.length → ad.block ≠ g) (h : spec_l00Src_among.f s0_0 s0_1 s0_2 l1 = some (r1, r2, r3)) :
 Calls Try.prog 100 #[.pointer (some ⟨g, 0, none⟩), .slice A1 l1.length c1] w fun e w' => e = .returned (.int .i64 r1) ∧ IsS101 w0 w' g s0_0 r2 r3 ∧ Below w0.heap.size w0 w' ∧ KeepBut w w' g none := by
 have HR1 := yD hr1
 have HC1 := yD hc1
 clear hr1 hc1
 have HI0 := yD hI
 have HK := yD (KeepBut.refl w g none)
 have HL := yD hB.size
 clear hI
 have HW0 := yD hB.size
 have HB := yD hB
 clear hB
 have H : ((spec_l00Src_pick.f s0_0 s0_1 s0_2 (l1.length : Int)).bind fun bt109 => (if 0 ≤ bt109.1 then (if bt109.1 < (l1.length : Int) then (some (rd l1 bt109.1, bt109.2.1, bt109.2.2)) else (none)) else (none))) = some (r1, r2, r3) := h
 clear h
 obtain ⟨⟨t109, t110, t111⟩, A30, H⟩ := zW_ H
 replace H : (if 0 ≤ t109 then (if t109 < (l1.length : Int) then (some (rd l1 t109, t110, t111)) else (none)) else (none)) = some (r1, r2, r3) := H
 have A3 := yD A30
 clear A30
 by_cases c4 : 0 ≤ t109
 ·
  rw [if_pos c4] at H
  have c4b0 : decide (0 ≤ t109) = true := zR c4; clear c4
  by_cases c5 : t109 < (l1.length : Int)
  ·
   rw [if_pos c5] at H
   have c5b0 : decide (t109 < (l1.length : Int)) = true := zR c5; clear c5
   simp only [Option.some.injEq, Prod.mk.injEq] at H
   obtain ⟨rfl, rfl, rfl⟩ := H
   go_enter Try.func100, Try.ntmps100
   go_wp2_with (first | ((with_reducible refine gate_callee (f := 101) rfl ?_); refine gL 9 Try.func101 #[.pointer (some ⟨g, 0, none⟩), .int .i64 (l1.length : Int)] ?_; (with_reducible refine (spec_l00Src_pick.calls g s0_0 s0_1 s0_2 (l1.length : Int) t109 t110 t111 w0 _ ?side1 ?side2 A3.out).mono ?_); (case side1 => exact kR2 HI0); (case side2 => exact kR3 HB); rintro e w6 ⟨rfl, hi, hb, hk⟩; refine ⟨_, rfl, ?_⟩; replace HK := yD (KeepBut.trans (kR4 HK) hk (.inl rfl)); replace HB := yD (hb); replace HI0 := yD (hi); clear hb hk hi; have p112 : 0 ≤ (t109 : Int) := zP (by assumption); have q112 : t109 < (l1.length : Int) := zP (by assumption); obtain ⟨ad112, e112, hx112_0⟩ := Kd.at_int HR1.out t109 p112 q112; cases e112; replace hx112_0 := keep_cell HK.out hx112_0 (by first | (rw [add_block]; exact hf1 _ rfl (by omega)) | exact hf1 _ rfl (by omega) | exact hf1 ad112 rfl (by omega)); replace p112 := eq_true p112; replace q112 := eq_true q112))
   go_ret
   exact ⟨by first | rfl | (simp <;> rfl) | (simp [*] <;> rfl), kR2 HI0, kR3 HB, kR4 HK⟩
  · rw [if_neg c5] at H
    exact absurd H (by simp)
 · rw [if_neg c4] at H
   exact absurd H (by simp)

/-! ### spec_l07DrawRank: function 61 -/
def spec_l07DrawRank.f (s0_0 : List Int) (s0_1 : Int) (s0_2 : Int) : Option (Int × Int × Int) := (spec_l00Src_among.f s0_0 s0_1 s0_2 (([1, 2, 2, 2, 3, 3, 0] : List Int))).bind fun bt116 => (some (bt116.1, bt116.2.1, bt116.2.2))
set_option maxHeartbeats 8000000 in
set_option maxRecDepth 100000 in
theorem spec_l07DrawRank.calls (g : Nat) (s0_0 : List Int) (s0_1 : Int) (s0_2 : Int) (r1 : Int) (r2 : Int) (r3 : Int) (w0 w : World) (hI : IsS101 w0 w g s0_0 s0_1 s0_2) (hB : Below w0.heap.size w0 w) (h : spec_l07DrawRank.f s0_0 s0_1 s0_2 = some (r1, r2, r3)) :
 Calls Try.prog 61 #[.pointer (some ⟨g, 0, none⟩)] w fun e w' => e = .returned (.int .i64 r1) ∧ IsS101 w0 w' g s0_0 r2 r3 ∧ Below w0.heap.size w0 w' ∧ KeepBut w w' g none := by
 have HI0 := yD hI
 have HK := yD (KeepBut.refl w g none)
 have HL := yD hB.size
 clear hI
 have HW0 := yD hB.size
 have HB := yD hB
 clear hB
 have H : ((spec_l00Src_among.f s0_0 s0_1 s0_2 (([1, 2, 2, 2, 3, 3, 0] : List Int))).bind fun bt116 => (some (bt116.1, bt116.2.1, bt116.2.2))) = some (r1, r2, r3) := h
 clear h
 obtain ⟨y113, hy113⟩ : ∃ y_ : List Int, y_ = (([1, 2, 2, 2, 3, 3, 0] : List Int)) := ⟨_, rfl⟩
 replace H : ((spec_l00Src_among.f s0_0 s0_1 s0_2 y113).bind fun bt116 => (some (bt116.1, bt116.2.1, bt116.2.2))) = some (r1, r2, r3) := by first | (rw [hy113]; with_reducible exact H) | (have H2_ := (Option.bind_some _ _).symm.trans H; rw [hy113]; with_reducible exact H2_) | (have H2_ := (Option.bind_some _ _).symm.trans H; with_reducible exact H2_) | with_reducible exact H | (rw [hy113]; exact H) | exact H
 have Ny113 := yD hy113
 clear hy113
 obtain ⟨⟨t116, t117, t118⟩, A20, H⟩ := zW_ H
 replace H : (some (t116, t117, t118)) = some (r1, r2, r3) := H
 have A2 := yD A20
 clear A20
 simp only [Option.some.injEq, Prod.mk.injEq] at H
 obtain ⟨rfl, rfl, rfl⟩ := H
 go_enter Try.func61, Try.ntmps61
 go_wp2_with (first | ((with_reducible refine gate_dst (N := 4) rfl ?_); refine Kd.R_lit (Kd.int .i64) _ 2 ?hg (N := 4) ?hd (xs := ([1, 2, 2, 2, 3, 3, 0] : List Int)) (inner := [.int .i64 1, .int .i64 2, .int .i64 2, .int .i64 2, .int .i64 3, .int .i64 3, .int .i64 0]) (ok := fun _ => True) (okp := fun _ => True) ?hr ?hp (fun _ hk => hk) trivial (Below.refl _ _) (Nat.le_refl _) (by simp) ?_; (case hd => rfl); (case hg => rfl); (case hr => first | (go_simp; done) | (go_simp; rfl)); (case hp => exact (Reps.one (show Kd.M (Kd.int .i64) _ _ _ 1 [.int .i64 1] from rfl) (Reps.one (show Kd.M (Kd.int .i64) _ _ _ 2 [.int .i64 2] from rfl) (Reps.one (show Kd.M (Kd.int .i64) _ _ _ 2 [.int .i64 2] from rfl) (Reps.one (show Kd.M (Kd.int .i64) _ _ _ 2 [.int .i64 2] from rfl) (Reps.one (show Kd.M (Kd.int .i64) _ _ _ 3 [.int .i64 3] from rfl) (Reps.one (show Kd.M (Kd.int .i64) _ _ _ 3 [.int .i64 3] from rfl) (Reps.one (show Kd.M (Kd.int .i64) _ _ _ 0 [.int .i64 0] from rfl) (Reps.none _ _))))))))); intro v114 w3 ho4 hb hg_ hnew_; clear hg_ hnew_; (first | rw [← Ny113.out] at ho4 | (simp only [Int.reduceToNat] at ho4; rw [← Ny113.out] at ho4)); have HO115 := yD (yZ ho4 (keep_size (w := w) (g := g) (row := none) (kR4 HK))); replace HI0 := yD (IsS101.below (kR2 HI0) hb); replace HK := yD (KeepBut.trans (kR4 HK) (KeepBut.of_below hb g none) (.inl rfl)); replace HB := yD (zC (kR3 HB) hb); clear hb ho4; obtain ⟨Ao5, co5, eo5⟩ := Kd.R_slice HO115.out; subst eo5) | ((with_reducible refine gate_callee (f := 100) rfl ?_); refine gL 5 Try.func100 #[.pointer (some ⟨g, 0, none⟩), .slice Ao5 y113.length co5] ?_; (with_reducible refine (spec_l00Src_among.calls g s0_0 s0_1 s0_2 _ _ y113 t116 t117 t118 w0 _ ?side1 ?side2 ?side3 ?side4 ?side5 A2.out).mono ?_); (case side1 => exact kR2 HI0); (case side2 => exact kR3 HB); (case side3 => exact kV (zA HO115.out).2.2); (case side4 => exact (zA HO115.out).2.1); (case side5 => exact far_slice (IsS101.own_ne HI0.out HO115.out (by decide))); rintro e w6 ⟨rfl, hi, hb, hk⟩; refine ⟨_, rfl, ?_⟩; replace HO115 := yD (zF (Kd.R_keep (IsS101.apart (show IsS101 w0 _ g s0_0 s0_1 s0_2 from kR2 HI0) (kA HO115) (by decide)) hk (fun _ h => h.2)) (fun _ h => h.1)); replace HK := yD (KeepBut.trans (kR4 HK) hk (.inl rfl)); replace HB := yD (hb); replace HI0 := yD (hi); clear hb hk hi))
 go_ret
 exact ⟨by first | rfl | (simp <;> rfl) | (simp [*] <;> rfl), kR2 HI0, kR3 HB, kR4 HK⟩

/-! ### spec_l07DrawBox: function 102 -/
def spec_l07DrawBox.l0 : Nat → Int → List Int → Int → Int → List Int → List Int → Option (List Int × List Int × Int × Int)
 | 0, _, _, _, _, _, _ => none
 | k + 1, x1, x1000, x1001, x1002, x121000, x121001 => if x1 > 0 then ((spec_l00Src_pick.f x1000 x1001 x1002 6).bind fun bt121 => ((spec_l00Src_pick.f x1000 bt121.2.1 bt121.2.2 4).bind fun bt124 => (if x121000.length < 17592186044416 then (if x121001.length < 17592186044416 then (spec_l07DrawBox.l0 k (wrap64 (x1 - 1)) x1000 bt124.2.1 bt124.2.2 (x121000 ++ [bt121.1]) (x121001 ++ [wrap64 ((wrap64 (bt121.1 + 1)) + bt124.1)])) else (none)) else (none)))) else (some (x121000, x121001, x1001, x1002))
def spec_l07DrawBox.f (k : Nat) (s0_0 : List Int) (s0_1 : Int) (s0_2 : Int) (a1 : Int) : Option (List Int × List Int × Int × Int) := spec_l07DrawBox.l0 k a1 s0_0 s0_1 s0_2 ([] : List Int) ([] : List Int)
theorem spec_l07DrawBox.mono_l : ∀ k, (∀ y0 y1 y2 y3 y4 y5, LeO (spec_l07DrawBox.l0 k y0 y1 y2 y3 y4 y5) (spec_l07DrawBox.l0 (k + 1) y0 y1 y2 y3 y4 y5))
 | 0 => fun _ _ _ _ _ _ r h => by simp [spec_l07DrawBox.l0] at h
 | k + 1 => by
  have ih0 := spec_l07DrawBox.mono_l k
  · intro y0 y1 y2 y3 y4 y5
    unfold spec_l07DrawBox.l0
    repeat' (with_reducible first | exact ih0 _ _ _ _ _ _ | exact LeO.refl _ | exact LeO.none _ | refine LeO.ite ?_ ?_ | refine LeO.bind ?_ (fun _ => ?_))
theorem spec_l07DrawBox.mono : ∀ a0 a1 a2 a3 k, LeO (spec_l07DrawBox.f k a0 a1 a2 a3) (spec_l07DrawBox.f (k + 1) a0 a1 a2 a3) := by
 intro a0 a1 a2 a3 k
 have ih0 := spec_l07DrawBox.mono_l k
 unfold spec_l07DrawBox.f
 repeat' (with_reducible first | exact ih0 _ _ _ _ _ _ | exact LeO.refl _ | exact LeO.none _ | refine LeO.ite ?_ ?_ | refine LeO.bind ?_ (fun _ => ?_))
set_option maxHeartbeats 8000000 in
set_option maxRecDepth 100000 in
theorem spec_l07DrawBox.calls (k : Nat) (g : Nat) (s0_0 : List Int) (s0_1 : Int) (s0_2 : Int) (a1 : Int) (r1 : List Int) (r2 : List Int) (r3 : Int) (r4 : Int) (w0 w : World) (hI : IsS101 w0 w g s0_0 s0_1 s0_2) (hB : Below w0.heap.size w0 w) (h : spec_l07DrawBox.f k s0_0 s0_1 s0_2 a1 = some (r1, r2, r3, r4)) :
 Calls Try.prog 102 #[.pointer (some ⟨g, 0, none⟩), .int .i64 a1] w fun e w' => ∃ v0_ v1_ : Value, e = .returned (.agg #[v0_, v1_]) ∧ Kd.R (Kd.int .i64) 2 w' w.heap.size (fun k_ => some k_ ≠ (v1_ : Value).ownBlock) v0_ r1 ∧ Kd.R (Kd.int .i64) 2 w' w.heap.size (fun k_ => some k_ ≠ (v0_ : Value).ownBlock) v1_ r2 ∧ IsS101 w0 w' g s0_0 r3 r4 ∧ Below w0.heap.size w0 w' ∧ KeepBut w w' g none := by
 have hu42 := Try.underlying42
 have HI0 := yD hI
 have HK := yD (KeepBut.refl w g none)
 have HL := yD hB.size
 clear hI
 have HW0 := yD hB.size
 have HB := yD hB
 clear hB
 have H : (spec_l07DrawBox.l0 k a1 s0_0 s0_1 s0_2 ([] : List Int) ([] : List Int)) = some (r1, r2, r3, r4) := h
 clear h
 have H' := yD H
 clear H; go_enter Try.func102, Try.ntmps102
 go_wp2_with (first | ((with_reducible refine gate_dst (N := 4) rfl ?_); refine box_event ?hg (N := 4) ?hd (cs := #[.slice none 0 0, .slice none 0 0]) (t := 42) ?hr ?_; (case hd => rfl); (case hg => rfl); (case hr => first | (go_simp; done) | (go_simp; rfl)); intro gb119 hg w3 hbox hb; replace HB := yD (zC (kR3 HB) hb); have BK119 := yD (hbox); have GW119 := yD ((by rw [hg]; exact (keep_size (w := w) (g := g) (row := none) (kR4 HK)) : w.heap.size ≤ gb119)); have GE119 := yD ((Nat.le_trans HW0.out (by rw [hg]; exact (keep_size (w := w) (g := g) (row := none) (kR4 HK)) : w.heap.size ≤ gb119) : w0.heap.size ≤ gb119)); replace HK := yD (KeepBut.trans (kR4 HK) (KeepBut.of_below hb g none) (.inl rfl)); have NB0_119 := yD ((by rw [hg]; exact Nat.ne_of_lt (IsS101.lt (show IsS101 w0 _ g s0_0 s0_1 s0_2 from kR2 HI0)) : g ≠ gb119)); have NB119_0 := yD ((by rw [hg]; exact Nat.ne_of_gt (IsS101.lt (show IsS101 w0 _ g s0_0 s0_1 s0_2 from kR2 HI0)) : gb119 ≠ g)); replace HI0 := yD (IsS101.below (kR2 HI0) hb); clear hb hbox hg) | ((with_reducible refine gate_dst (N := 5) rfl ?_); refine box_event ?hg (N := 5) ?hd (cs := #[.slice none 0 0, .slice none 0 0]) (t := 42) ?hr ?_; (case hd => rfl); (case hg => rfl); (case hr => first | (go_simp; done) | (go_simp; rfl)); intro gb120 hg w4 hbox hb; replace HB := yD (zC (kR7 HB) hb); have BK120 := yD (hbox); have GW120 := yD ((by rw [hg]; exact (keep_size (w := w) (g := g) (row := none) (kR6 HK)) : w.heap.size ≤ gb120)); have GE120 := yD ((Nat.le_trans HW0.out (by rw [hg]; exact (keep_size (w := w) (g := g) (row := none) (kR6 HK)) : w.heap.size ≤ gb120) : w0.heap.size ≤ gb120)); replace HK := yD (KeepBut.trans (kR6 HK) (KeepBut.of_below hb g none) (.inl rfl)); have NB119_120 := yD ((by rw [hg]; exact Nat.ne_of_lt (blk_lt (kN BK119)) : gb119 ≠ gb120)); have NB120_119 := yD ((by rw [hg]; exact Nat.ne_of_gt (blk_lt (kN BK119)) : gb120 ≠ gb119)); replace BK119 := yD (zB (kN BK119) hb); have NB0_120 := yD ((by rw [hg]; exact Nat.ne_of_lt (IsS101.lt (show IsS101 w0 _ g s0_0 s0_1 s0_2 from kR5 HI0)) : g ≠ gb120)); have NB120_0 := yD ((by rw [hg]; exact Nat.ne_of_gt (IsS101.lt (show IsS101 w0 _ g s0_0 s0_1 s0_2 from kR5 HI0)) : gb120 ≠ g)); replace HI0 := yD (IsS101.below (kR5 HI0) hb); clear hb hbox hg; have hnb5 := NB120_119.out; have hnc5 := NB119_120.out; have hnb6 := NB120_0.out; have hnc6 := NB0_120.out; obtain ⟨hcz7_0, hcz7_1⟩ := cz2 BK120.out; obtain ⟨hfz7_0, hfz7_1⟩ := fz2 BK120.out))
 (try simp only [Act.put, zH, zI, zJ])
 go_loopg [1] k (fun kq v1 w' => ∃ (x1_1 : Int) (x1001_1 : Int) (x1002_1 : Int) (x121000_1 : List Int) (x121001_1 : List Int) (u121000 : Value) (u121001 : Value), v1 = .int .i64 x1_1 ∧ Aside0 (spec_l07DrawBox.l0 kq x1_1 s0_0 x1001_1 x1002_1 x121000_1 x121001_1 = some (r1, r2, r3, r4)) ∧ Aside0 (kq ≤ k) ∧ Aside0 (Kd.R (Kd.int .i64) 2 w' w.heap.size (fun k_ => oB u121001 k_) u121000 x121000_1) ∧ Aside0 (Kd.R (Kd.int .i64) 2 w' w.heap.size (fun k_ => oB u121000 k_) u121001 x121001_1) ∧ Aside0 (w'.heap[gb119]? = some (.cells #[(.slice none 0 0), (.slice none 0 0)] 42 (0, 0))) ∧ Aside0 (w'.heap[gb120]? = some (.cells #[u121000, u121001] 42 (0, 0))) ∧ Aside0 (IsS101 w0 w' g s0_0 x1001_1 x1002_1) ∧ Aside0 (KeepBut w w' g none) ∧ Aside0 (Below w0.heap.size w0 w'))
 case atStart => exact ⟨(a1), (s0_1), (s0_2), (([] : List Int)), (([] : List Int)), (.slice none 0 0), (.slice none 0 0), (by first | rfl | (simp; done) | (simp [*]; done)), H', ⟨Nat.le_refl _⟩, ⟨by first | exact Kd.R_nil _ _ _ _ _ | exact Kd.N_nil _ _ _ _ _ | exact Kd.V_nil _ _ _ _ _ | exact Kd.Q_nil _ _ _ _ _ | exact Kd.S_nil _ _ _ _ _⟩, ⟨by first | exact Kd.R_nil _ _ _ _ _ | exact Kd.N_nil _ _ _ _ _ | exact Kd.V_nil _ _ _ _ _ | exact Kd.Q_nil _ _ _ _ _ | exact Kd.S_nil _ _ _ _ _⟩, ⟨by (with_reducible repeat (first | refine yM ?_ _ | refine yO ?_ | refine yN ?_ _)); refine blk_far ?_ NB119_120.out _; (with_reducible repeat (first | refine yM ?_ _ | refine yO ?_ | refine yN ?_ _)); refine blk_far ?_ NB119_120.out _; (with_reducible repeat (first | refine yM ?_ _ | refine yO ?_ | refine yN ?_ _)); exact BK119.out⟩, ⟨by (with_reducible repeat (first | refine yM ?_ _ | refine yO ?_ | refine yN ?_ _)); refine blk_put (cs := #[.slice none 0 0, .slice none 0 0]) ?_ 1 _ rfl; (with_reducible repeat (first | refine yM ?_ _ | refine yO ?_ | refine yN ?_ _)); refine blk_put (cs := #[.slice none 0 0, .slice none 0 0]) ?_ 0 _ rfl; (with_reducible repeat (first | refine yM ?_ _ | refine yO ?_ | refine yN ?_ _)); exact BK120.out⟩, ⟨kR5 HI0⟩, ⟨kR6 HK⟩, ⟨kR7 HB⟩⟩
 case round =>
  clear H'
  try clear c1; try clear hcz7_0; try clear hcz7_1; try clear hfz7_0; try clear hfz7_1
  obtain ⟨x1_1, x1001_1, x1002_1, x121000_1, x121001_1, u121000, u121001, rfl, HA, HK1, HO_121000, HO_121001, BK119, BK120, HI0, HK, HB⟩ := hrel
  cases gk with
  | zero => exact absurd HA.out (by simp [spec_l07DrawBox.l0])
  | succ k1 =>
   have H := HA.out; clear HA
   simp only [spec_l07DrawBox.l0] at H
   by_cases c8 : x1_1 > 0
   ·
    rw [if_pos c8] at H
    have c8b0 : decide (0 < x1_1) = true := zR c8; clear c8
    obtain ⟨⟨t121, t122, t123⟩, A90, H⟩ := zW_ H
    replace H : ((spec_l00Src_pick.f s0_0 t122 t123 4).bind fun bt124 => (if x121000_1.length < 17592186044416 then (if x121001_1.length < 17592186044416 then (spec_l07DrawBox.l0 k1 (wrap64 (x1_1 - 1)) s0_0 bt124.2.1 bt124.2.2 (x121000_1 ++ [t121]) (x121001_1 ++ [wrap64 ((wrap64 (t121 + 1)) + bt124.1)])) else (none)) else (none))) = some (r1, r2, r3, r4) := H
    have A9 := yD A90
    clear A90
    obtain ⟨⟨t124, t125, t126⟩, A100, H⟩ := zW_ H
    replace H : (if x121000_1.length < 17592186044416 then (if x121001_1.length < 17592186044416 then (spec_l07DrawBox.l0 k1 (wrap64 (x1_1 - 1)) s0_0 t125 t126 (x121000_1 ++ [t121]) (x121001_1 ++ [wrap64 ((wrap64 (t121 + 1)) + t124)])) else (none)) else (none)) = some (r1, r2, r3, r4) := H
    have A10 := yD A100
    clear A100
    by_cases c11 : x121000_1.length < 17592186044416
    ·
     rw [if_pos c11] at H
     have LMc11 := yD c11
     clear c11
     obtain ⟨y127, hy127⟩ : ∃ y_ : List Int, y_ = (x121000_1 ++ [t121]) := ⟨_, rfl⟩
     replace H : (if x121001_1.length < 17592186044416 then (spec_l07DrawBox.l0 k1 (wrap64 (x1_1 - 1)) s0_0 t125 t126 y127 (x121001_1 ++ [wrap64 ((wrap64 (t121 + 1)) + t124)])) else (none)) = some (r1, r2, r3, r4) := by first | (rw [hy127]; with_reducible exact H) | (have H2_ := (Option.bind_some _ _).symm.trans H; rw [hy127]; with_reducible exact H2_) | (have H2_ := (Option.bind_some _ _).symm.trans H; with_reducible exact H2_) | with_reducible exact H | (rw [hy127]; exact H) | exact H
     have Ny127 := yD hy127
     clear hy127
     by_cases c12 : x121001_1.length < 17592186044416
     ·
      rw [if_pos c12] at H
      have LMc12 := yD c12
      clear c12
      obtain ⟨y130, hy130⟩ : ∃ y_ : List Int, y_ = (x121001_1 ++ [wrap64 ((wrap64 (t121 + 1)) + t124)]) := ⟨_, rfl⟩
      replace H : (spec_l07DrawBox.l0 k1 (wrap64 (x1_1 - 1)) s0_0 t125 t126 y127 y130) = some (r1, r2, r3, r4) := by first | (rw [hy130]; with_reducible exact H) | (have H2_ := (Option.bind_some _ _).symm.trans H; rw [hy130]; with_reducible exact H2_) | (have H2_ := (Option.bind_some _ _).symm.trans H; with_reducible exact H2_) | with_reducible exact H | (rw [hy130]; exact H) | exact H
      have Ny130 := yD hy130
      clear hy130
      have H' := yD H
      clear H
      go_wp2_with (first | ((with_reducible refine gate_callee (f := 101) rfl ?_); refine gL 14 Try.func101 #[.pointer (some ⟨g, 0, none⟩), .int .i64 6] ?_; (with_reducible refine (spec_l00Src_pick.calls g s0_0 x1001_1 x1002_1 6 t121 t122 t123 w0 _ ?side1 ?side2 A9.out).mono ?_); (case side1 => exact kR5 HI0); (case side2 => exact kR7 HB); rintro e w13 ⟨rfl, hi, hb, hk⟩; refine ⟨_, rfl, ?_⟩; replace HO_121000 := yD (zF (Kd.R_keep (IsS101.apart (show IsS101 w0 _ g s0_0 x1001_1 x1002_1 from kR5 HI0) (kA HO_121000) (by decide)) hk (fun _ h => h.2)) (fun _ h => h.1)); replace HO_121001 := yD (zF (Kd.R_keep (IsS101.apart (show IsS101 w0 _ g s0_0 x1001_1 x1002_1 from kR5 HI0) (kA HO_121001) (by decide)) hk (fun _ h => h.2)) (fun _ h => h.1)); replace BK119 := yD (KeepBut.blk hk (g' := gb119) (o := .cells #[.slice none 0 0, .slice none 0 0] 42 (0, 0)) (kM BK119) NB119_0.out (by simp)); replace BK120 := yD (KeepBut.blk hk (g' := gb120) (o := .cells #[u121000, u121001] 42 (0, 0)) (kM BK120) NB120_0.out (by simp)); replace HK := yD (KeepBut.trans (kR6 HK) hk (.inl rfl)); replace HB := yD (hb); replace HI0 := yD (hi); clear hb hk hi) | ((with_reducible refine gate_callee (f := 101) rfl ?_); refine gL 18 Try.func101 #[.pointer (some ⟨g, 0, none⟩), .int .i64 4] ?_; (with_reducible refine (spec_l00Src_pick.calls g s0_0 t122 t123 4 t124 t125 t126 w0 _ ?side1 ?side2 A10.out).mono ?_); (case side1 => exact kR5 HI0); (case side2 => exact kR7 HB); rintro e w14 ⟨rfl, hi, hb, hk⟩; refine ⟨_, rfl, ?_⟩; replace HO_121000 := yD (zF (Kd.R_keep (IsS101.apart (show IsS101 w0 _ g s0_0 t122 t123 from kR5 HI0) (kA HO_121000) (by decide)) hk (fun _ h => h.2)) (fun _ h => h.1)); replace HO_121001 := yD (zF (Kd.R_keep (IsS101.apart (show IsS101 w0 _ g s0_0 t122 t123 from kR5 HI0) (kA HO_121001) (by decide)) hk (fun _ h => h.2)) (fun _ h => h.1)); replace BK119 := yD (KeepBut.blk hk (g' := gb119) (o := .cells #[.slice none 0 0, .slice none 0 0] 42 (0, 0)) (kM BK119) NB119_0.out (by simp)); replace BK120 := yD (KeepBut.blk hk (g' := gb120) (o := .cells #[u121000, u121001] 42 (0, 0)) (kM BK120) NB120_0.out (by simp)); replace HK := yD (KeepBut.trans (kR6 HK) hk (.inl rfl)); replace HB := yD (hb); replace HI0 := yD (hi); clear hb hk hi; have hnb15 := NB120_119.out; have hnc15 := NB119_120.out; have hnb16 := NB120_0.out; have hnc16 := NB0_120.out; obtain ⟨hcz17_0, hcz17_1⟩ := cz2 BK120.out; obtain ⟨hfz17_0, hfz17_1⟩ := fz2 BK120.out) | ((with_reducible refine gate_builtin (b := .append) (xs := #[.tmp 21, .tmp 23]) rfl ?_); at_builtin; refine Kd.R_append (Kd.int .i64) w.heap.size rfl (.tmp 21) (.tmp 23) 36 2 (.int .i64 0) 8 rfl Try.underlying36 info2 rfl (by decide) (by omega) u121000 x121000_1 t121 [.int .i64 t121] (fun k_ => oB u121001 k_) (fun _ => False) rfl rfl ?aP (fun _ hk => hk.elim) ?aF ?aO (Below.refl _ _) ?aS ?aL ?_; (case aP => exact rfl); (case aF => exact (fun k_ hk => Kd.fresh' (yK (kA HO_121001)) k_ hk)); (case aO => exact (kA HO_121000)); (case aS => exact (keep_size (w := w) (g := g) (row := none) (kR6 HK))); (case aL => have := LMc11.out; omega); intro v128 w18 ho hb hg hat; rw [← Ny127.out] at ho; replace HO_121001 := yD (Kd.R_after (ok := (fun _ => True)) (mR HO_121001 (fun _ hk => ⟨trivial, hk⟩)) hg hat); replace BK119 := yD (blk_grown (g := gb119) (o := .cells #[.slice none 0 0, .slice none 0 0] 42 (0, 0)) (kM BK119) hg (Kd.R_ne HO_121000.out BK119.out (by decide))); replace BK120 := yD (blk_grown (g := gb120) (o := .cells #[u121000, u121001] 42 (0, 0)) (kM BK120) hg (Kd.R_ne HO_121000.out BK120.out (by decide))); replace HI0 := yD (IsS101.grown (kR5 HI0) hg (IsS101.own_ne HI0.out HO_121000.out (by decide))); replace HB := yD (below_weaken (kR7 HB) HL.out hb); replace HK := yD (KeepBut.trans (kR6 HK) (KeepBut.of_grown hg g) (Kd.R_base2 HO_121000.out)); have HO129 := yD (ho); clear HO_121000; clear ho hb hg hat; obtain ⟨Ao19, co19, eo19⟩ := Kd.R_slice HO129.out; subst eo19; obtain ⟨hcz20_0, hcz20_1⟩ := cz2 BK120.out; obtain ⟨hfz20_0, hfz20_1⟩ := fz2 BK120.out) | ((with_reducible refine gate_builtin (b := .append) (xs := #[.tmp 27, .tmp 29]) rfl ?_); at_builtin; refine Kd.R_append (Kd.int .i64) w.heap.size rfl (.tmp 27) (.tmp 29) 36 2 (.int .i64 0) 8 rfl Try.underlying36 info2 rfl (by decide) (by omega) u121001 x121001_1 (wrap64 ((wrap64 (t121 + 1)) + t124)) [.int .i64 (wrap64 ((wrap64 (t121 + 1)) + t124))] (fun k_ => oB (.slice Ao19 y127.length co19) k_) (fun _ => False) rfl (by first | (go_simp; done) | (go_simp; rfl)) ?aP (fun _ hk => hk.elim) ?aF ?aO (Below.refl _ _) ?aS ?aL ?_; (case aP => exact rfl); (case aF => exact (fun k_ hk => Kd.fresh' (yK (by (with_reducible repeat (first | apply yA | apply yB | apply yC)); exact (zF (yF (p := ⟨gb120, 0, none⟩) (Kd.R_types HO129.out BK120.out (by decide)) (fun _ hk => hk.2) (.slice Ao19 y127.length co19)) (fun _ h_ => h_.1)))) k_ hk)); (case aO => exact (by (with_reducible repeat (first | apply yA | apply yB | apply yC)); exact zF (yF (p := ⟨gb120, 0, none⟩) (Kd.R_types HO_121001.out BK120.out (by decide)) (fun _ hk => hk.2) (.slice Ao19 y127.length co19)) (fun _ hk => hk.1.2))); (case aS => exact (keep_size (w := w) (g := g) (row := none) (kR6 HK))); (case aL => have := LMc12.out; omega); intro v131 w21 ho hb hg hat; rw [← Ny130.out] at ho; replace BK119 := yD (blk_grown (g := gb119) (o := .cells #[.slice none 0 0, .slice none 0 0] 42 (0, 0)) (by (with_reducible repeat (first | refine yM ?_ _ | refine yO ?_ | refine yN ?_ _)); refine blk_far ?_ NB119_120.out _; (with_reducible repeat (first | refine yM ?_ _ | refine yO ?_ | refine yN ?_ _)); exact BK119.out) hg (Kd.R_ne HO_121001.out BK119.out (by decide))); replace HI0 := yD (IsS101.grown (kR5 HI0) hg (IsS101.own_ne HI0.out HO_121001.out (by decide))); replace HO129 := yD (Kd.R_after (ok := (fun _ => True)) (by (with_reducible repeat (first | apply yA | apply yB | apply yC)); exact zF (yF (p := ⟨gb120, 0, none⟩) (Kd.R_types HO129.out BK120.out (by decide)) (fun _ hk => hk.2) (.slice Ao19 y127.length co19)) (fun _ hk => ⟨trivial, hk.1⟩)) hg hat); replace BK120 := yD (blk_grown (g := gb120) (o := .cells #[.slice Ao19 y127.length co19, u121001] 42 (0, 0)) (by (with_reducible repeat (first | refine yM ?_ _ | refine yO ?_ | refine yN ?_ _)); refine blk_put (cs := #[u121000, u121001]) ?_ 0 _ rfl; (with_reducible repeat (first | refine yM ?_ _ | refine yO ?_ | refine yN ?_ _)); exact BK120.out) hg (Kd.R_ne HO_121001.out BK120.out (by decide))); replace HB := yD (below_weaken (kR7 HB) HL.out hb); replace HK := yD (KeepBut.trans (kR6 HK) (KeepBut.of_grown hg g) (Kd.R_base2 HO_121001.out)); have HO132 := yD (ho); clear HO_121001; clear ho hb hg hat; obtain ⟨Ao22, co22, eo22⟩ := Kd.R_slice HO132.out; subst eo22; obtain ⟨hcz23_0, hcz23_1⟩ := cz2 BK120.out; obtain ⟨hfz23_0, hfz23_1⟩ := fz2 BK120.out))
      go_roundg k1
      case measure => have := HK1.out; omega
      case rel => exact ⟨(wrap64 (x1_1 - 1)), (t125), (t126), (y127), (y130), (.slice Ao19 y127.length co19), (.slice Ao22 y130.length co22), (by first | rfl | (simp; done) | (simp [*]; done)), H', ⟨by have := HK1.out; omega⟩, ⟨by (with_reducible repeat (first | apply yA | apply yB | apply yC)); exact zF (yF (p := ⟨gb120, 1, none⟩) (Kd.R_types HO129.out BK120.out (by decide)) (fun _ hk => hk.2) (.slice Ao22 y130.length co22)) (fun _ hk => hk.1.2)⟩, ⟨by (with_reducible repeat (first | apply yA | apply yB | apply yC)); exact zF (yF (p := ⟨gb120, 1, none⟩) (Kd.R_types HO132.out BK120.out (by decide)) (fun _ hk => hk.2) (.slice Ao22 y130.length co22)) (fun _ hk => hk.1)⟩, ⟨by (with_reducible repeat (first | refine yM ?_ _ | refine yO ?_ | refine yN ?_ _)); refine blk_far ?_ NB119_120.out _; (with_reducible repeat (first | refine yM ?_ _ | refine yO ?_ | refine yN ?_ _)); exact BK119.out⟩, ⟨by (with_reducible repeat (first | refine yM ?_ _ | refine yO ?_ | refine yN ?_ _)); refine blk_put (cs := #[.slice Ao19 y127.length co19, u121001]) ?_ 1 _ rfl; (with_reducible repeat (first | refine yM ?_ _ | refine yO ?_ | refine yN ?_ _)); exact BK120.out⟩, ⟨kR5 HI0⟩, ⟨kR6 HK⟩, ⟨kR7 HB⟩⟩
     · rw [if_neg c12] at H
       exact absurd H (by simp)
    · rw [if_neg c11] at H
      exact absurd H (by simp)
   ·
    rw [if_neg c8] at H
    have c8b0 : decide (0 < x1_1) = false := zS c8; clear c8
    simp only [Option.some.injEq, Prod.mk.injEq] at H
    obtain ⟨rfl, rfl, rfl, rfl⟩ := H
    have hnb24 := NB120_119.out; have hnc24 := NB119_120.out; have hnb25 := NB120_0.out; have hnc25 := NB0_120.out
    obtain ⟨hcz26_0, hcz26_1⟩ := cz2 BK120.out
    obtain ⟨hfz26_0, hfz26_1⟩ := fz2 BK120.out
    obtain ⟨Ao27, co27, eo27⟩ := Kd.R_slice HO_121000.out
    subst eo27; have hnb28 := NB119_0.out; have hnc28 := NB0_119.out
    obtain ⟨hcz29_0, hcz29_1⟩ := cz2 BK119.out
    obtain ⟨hfz29_0, hfz29_1⟩ := fz2 BK119.out
    obtain ⟨Ao30, co30, eo30⟩ := Kd.R_slice HO_121001.out
    subst eo30
    go_wp2
    refine bodyPost_ret (results_cell_row rfl _ _ gb119 42 #[.slice Ao27 x121000_1.length co27, .slice Ao30 x121001_1.length co30] (0, 0) _ rfl (by (with_reducible repeat (first | refine yM ?_ _ | refine yO ?_ | refine yN ?_ _)); refine blk_put (cs := #[.slice Ao27 x121000_1.length co27, .slice none 0 0]) ?_ 1 _ rfl; (with_reducible repeat (first | refine yM ?_ _ | refine yO ?_ | refine yN ?_ _)); refine blk_put (cs := #[.slice none 0 0, .slice none 0 0]) ?_ 0 _ rfl; (with_reducible repeat (first | refine yM ?_ _ | refine yO ?_ | refine yN ?_ _)); exact BK119.out) Try.underlying42 rfl (by kernel_rfl)) rfl ?_
    exact ⟨_, _, by first | rfl | (simp <;> rfl) | (simp [*] <;> rfl), by (with_reducible repeat (first | apply yA | apply yB | apply yC)); exact zF (yF (p := ⟨gb119, 1, none⟩) (yF (p := ⟨gb119, 0, none⟩) (Kd.R_types HO_121000.out BK119.out (by decide)) (fun _ hk => hk.2) (.slice Ao27 x121000_1.length co27)) (fun _ hk => hk.2) (.slice Ao30 x121001_1.length co30)) (fun _ hk => hk.1), by (with_reducible repeat (first | apply yA | apply yB | apply yC)); exact zF (yF (p := ⟨gb119, 1, none⟩) (yF (p := ⟨gb119, 0, none⟩) (Kd.R_types HO_121001.out BK119.out (by decide)) (fun _ hk => hk.2) (.slice Ao27 x121000_1.length co27)) (fun _ hk => hk.2) (.slice Ao30 x121001_1.length co30)) (fun _ hk => hk.1), kR5 HI0, kR7 HB, kR6 HK⟩

/-! ### spec_l07Draw: function 62 -/
def spec_l07Draw.l0 : Nat → Int → List (S42) → Int → List Int → Int → Int → Option ((List (S42)) × Int × Int)
 | 0, _, _, _, _, _, _ => none
 | k + 1, x1, x5, x6, x1000, x1001, x1002 => if x6 > 0 then ((spec_l07DrawBox.f k x1000 x1001 x1002 x1).bind fun bt139 => (if x5.length < 2932031007402 then (spec_l07Draw.l0 k x1 (x5 ++ [(⟨bt139.1, bt139.2.1⟩ : S42)]) (wrap64 (x6 - 1)) x1000 bt139.2.2.1 bt139.2.2.2) else (none))) else (some (x5, x1001, x1002))
def spec_l07Draw.f (k : Nat) (s0_0 : List Int) (s0_1 : Int) (s0_2 : Int) (a1 : Int) : Option ((List (S42)) × Int × Int) := (spec_l00Src_pick.f s0_0 s0_1 s0_2 6).bind fun bt136 => (spec_l07Draw.l0 k a1 (([] : List (S42))) bt136.1 s0_0 bt136.2.1 bt136.2.2)
theorem spec_l07Draw.mono_l : ∀ k, (∀ y0 y1 y2 y3 y4 y5, LeO (spec_l07Draw.l0 k y0 y1 y2 y3 y4 y5) (spec_l07Draw.l0 (k + 1) y0 y1 y2 y3 y4 y5))
 | 0 => fun _ _ _ _ _ _ r h => by simp [spec_l07Draw.l0] at h
 | k + 1 => by
  have ih0 := spec_l07Draw.mono_l k
  · intro y0 y1 y2 y3 y4 y5
    unfold spec_l07Draw.l0
    repeat' (with_reducible first | exact ih0 _ _ _ _ _ _ | exact spec_l07DrawBox.mono _ _ _ _ _ | exact LeO.refl _ | exact LeO.none _ | refine LeO.ite ?_ ?_ | refine LeO.bind ?_ (fun _ => ?_))
theorem spec_l07Draw.mono : ∀ a0 a1 a2 a3 k, LeO (spec_l07Draw.f k a0 a1 a2 a3) (spec_l07Draw.f (k + 1) a0 a1 a2 a3) := by
 intro a0 a1 a2 a3 k
 have ih0 := spec_l07Draw.mono_l k
 unfold spec_l07Draw.f
 repeat' (with_reducible first | exact ih0 _ _ _ _ _ _ | exact spec_l07DrawBox.mono _ _ _ _ _ | exact LeO.refl _ | exact LeO.none _ | refine LeO.ite ?_ ?_ | refine LeO.bind ?_ (fun _ => ?_))
set_option maxHeartbeats 8000000 in
set_option maxRecDepth 100000 in
theorem spec_l07Draw.calls (k : Nat) (g : Nat) (s0_0 : List Int) (s0_1 : Int) (s0_2 : Int) (a1 : Int) (r1 : List (S42)) (r2 : Int) (r3 : Int) (w0 w : World) (hI : IsS101 w0 w g s0_0 s0_1 s0_2) (hB : Below w0.heap.size w0 w) (h : spec_l07Draw.f k s0_0 s0_1 s0_2 a1 = some (r1, r2, r3)) :
 Calls Try.prog 62 #[.pointer (some ⟨g, 0, none⟩), .int .i64 a1] w fun e w' => ∃ v0_ : Value, e = .returned (v0_) ∧ Kd.S k42 42 w' w.heap.size (fun _ => True) v0_ r1 ∧ IsS101 w0 w' g s0_0 r2 r3 ∧ Below w0.heap.size w0 w' ∧ KeepBut w w' g none := by
 have HI0 := yD hI
 have HK := yD (KeepBut.refl w g none)
 have HL := yD hB.size
 clear hI
 have HW0 := yD hB.size
 have HB := yD hB
 clear hB
 have H : ((spec_l00Src_pick.f s0_0 s0_1 s0_2 6).bind fun bt136 => (spec_l07Draw.l0 k a1 (([] : List (S42))) bt136.1 s0_0 bt136.2.1 bt136.2.2)) = some (r1, r2, r3) := h
 clear h
 obtain ⟨y133, hy133⟩ : ∃ y_ : List (S42), y_ = (([] : List (S42))) := ⟨_, rfl⟩
 replace H : ((spec_l00Src_pick.f s0_0 s0_1 s0_2 6).bind fun bt136 => (spec_l07Draw.l0 k a1 y133 bt136.1 s0_0 bt136.2.1 bt136.2.2)) = some (r1, r2, r3) := by first | (rw [hy133]; with_reducible exact H) | (have H2_ := (Option.bind_some _ _).symm.trans H; rw [hy133]; with_reducible exact H2_) | (have H2_ := (Option.bind_some _ _).symm.trans H; with_reducible exact H2_) | with_reducible exact H | (rw [hy133]; exact H) | exact H
 have Ny133 := yD hy133
 clear hy133
 obtain ⟨⟨t136, t137, t138⟩, A30, H⟩ := zW_ H
 replace H : (spec_l07Draw.l0 k a1 y133 t136 s0_0 t137 t138) = some (r1, r2, r3) := H
 have A3 := yD A30
 clear A30
 have H' := yD H
 clear H; go_enter Try.func62, Try.ntmps62
 go_wp2_with (first | ((with_reducible refine gate_dst (N := 7) rfl ?_); refine Kd.S_lit k42 _ 42 ?hg (N := 7) ?hd (xs := ([] : List (S42))) (inner := []) (ok := fun _ => True) (okp := fun _ => True) ?hr ?hp (fun _ hk => hk) trivial (Below.refl _ _) (Nat.le_refl _) (by simp) ?_; (case hd => rfl); (case hg => rfl); (case hr => first | (go_simp; done) | (go_simp; rfl)); (case hp => exact (Reps.none _ _)); intro v134 w4 ho5 hb hg_ hnew_; clear hg_ hnew_; (first | rw [← Ny133.out] at ho5 | (simp only [Int.reduceToNat] at ho5; rw [← Ny133.out] at ho5)); have HO135 := yD (zG ho5 (keep_size (w := w) (g := g) (row := none) (kR4 HK))); replace HI0 := yD (IsS101.below (kR2 HI0) hb); replace HK := yD (KeepBut.trans (kR4 HK) (KeepBut.of_below hb g none) (.inl rfl)); replace HB := yD (zC (kR3 HB) hb); clear hb ho5) | ((with_reducible refine gate_callee (f := 101) rfl ?_); refine gL 9 Try.func101 #[.pointer (some ⟨g, 0, none⟩), .int .i64 6] ?_; (with_reducible refine (spec_l00Src_pick.calls g s0_0 s0_1 s0_2 6 t136 t137 t138 w0 _ ?side1 ?side2 A3.out).mono ?_); (case side1 => exact kR2 HI0); (case side2 => exact kR3 HB); rintro e w6 ⟨rfl, hi, hb, hk⟩; refine ⟨_, rfl, ?_⟩; replace HO135 := yD (Kd.S_mono (Kd.S_keep (IsS101.apartS (show IsS101 w0 _ g s0_0 s0_1 s0_2 from kR2 HI0) (kS HO135) (by decide)) hk (fun _ h => h.2)) (fun _ h => h.1)); replace HK := yD (KeepBut.trans (kR4 HK) hk (.inl rfl)); replace HB := yD (hb); replace HI0 := yD (hi); clear hb hk hi))
 (try simp only [Act.put, zH, zI, zJ])
 go_loopg [5, 6] k (fun kq v5 v6 w' => ∃ (x5_1 : List (S42)) (x6_1 : Int) (x1001_1 : Int) (x1002_1 : Int), v6 = .int .i64 x6_1 ∧ Aside0 (spec_l07Draw.l0 kq a1 x5_1 x6_1 s0_0 x1001_1 x1002_1 = some (r1, r2, r3)) ∧ Aside0 (kq ≤ k) ∧ Aside0 (Kd.S k42 42 w' w.heap.size (fun _ => True) v5 x5_1) ∧ Aside0 (IsS101 w0 w' g s0_0 x1001_1 x1002_1) ∧ Aside0 (KeepBut w w' g none) ∧ Aside0 (Below w0.heap.size w0 w'))
 case atStart => exact ⟨(y133), (t136), (t137), (t138), (by first | rfl | (simp; done) | (simp [*]; done)), H', ⟨Nat.le_refl _⟩, ⟨kS HO135⟩, ⟨kR2 HI0⟩, ⟨kR4 HK⟩, ⟨kR3 HB⟩⟩
 case round =>
  clear H'
  try clear c1
  obtain ⟨x5_1, x6_1, x1001_1, x1002_1, rfl, HA, HK1, HO_5, HI0, HK, HB⟩ := hrel
  cases gk with
  | zero => exact absurd HA.out (by simp [spec_l07Draw.l0])
  | succ k1 =>
   have H := HA.out; clear HA
   simp only [spec_l07Draw.l0] at H
   by_cases c7 : x6_1 > 0
   ·
    rw [if_pos c7] at H
    have c7b0 : decide (0 < x6_1) = true := zR c7; clear c7
    obtain ⟨⟨t139, t142, t145, t146⟩, A80, H⟩ := zW_ H
    replace H : (if x5_1.length < 2932031007402 then (spec_l07Draw.l0 k1 a1 (x5_1 ++ [(⟨t139, t142⟩ : S42)]) (wrap64 (x6_1 - 1)) s0_0 t145 t146) else (none)) = some (r1, r2, r3) := H
    have A8 := yD A80
    clear A80
    by_cases c9 : x5_1.length < 2932031007402
    ·
     rw [if_pos c9] at H
     have LMc9 := yD c9
     clear c9
     obtain ⟨y147, hy147⟩ : ∃ y_ : List (S42), y_ = (x5_1 ++ [(⟨t139, t142⟩ : S42)]) := ⟨_, rfl⟩
     replace H : (spec_l07Draw.l0 k1 a1 y147 (wrap64 (x6_1 - 1)) s0_0 t145 t146) = some (r1, r2, r3) := by first | (rw [hy147]; with_reducible exact H) | (have H2_ := (Option.bind_some _ _).symm.trans H; rw [hy147]; with_reducible exact H2_) | (have H2_ := (Option.bind_some _ _).symm.trans H; with_reducible exact H2_) | with_reducible exact H | (rw [hy147]; exact H) | exact H
     have Ny147 := yD hy147
     clear hy147
     have H' := yD H
     clear H
     go_wp2_with (first | ((with_reducible refine gate_callee (f := 102) rfl ?_); refine gL 17 Try.func102 #[.pointer (some ⟨g, 0, none⟩), .int .i64 a1] ?_; (with_reducible refine (spec_l07DrawBox.calls k1 g s0_0 x1001_1 x1002_1 a1 t139 t142 t145 t146 w0 _ ?side1 ?side2 A8.out).mono ?_); (case side1 => exact kR2 HI0); (case side2 => exact kR3 HB); rintro e w10 ⟨v140, v143, rfl, ho0, ho1, hi, hb, hk⟩; refine ⟨_, rfl, ?_⟩; replace HO_5 := yD (Kd.S_mono (Kd.S_told (Kd.S_told (Kd.S_oldK (IsS101.apartS (show IsS101 w0 _ g s0_0 x1001_1 x1002_1 from kR2 HI0) (kS HO_5) (by decide)) hk) (yH ho0)) (yH ho1)) (fun _ h_ => h_.1)); have HO141 := yD (yZ ho0 (keep_size (w := w) (g := g) (row := none) (kR4 HK))); have HO144 := yD (yZ ho1 (keep_size (w := w) (g := g) (row := none) (kR4 HK))); replace HK := yD (KeepBut.trans (kR4 HK) hk (.inl rfl)); replace HB := yD (hb); replace HI0 := yD (hi); clear hb hk hi ho0 ho1; obtain ⟨Ao12, co12, eo12⟩ := Kd.R_slice HO141.out; subst eo12; obtain ⟨Ao13, co13, eo13⟩ := Kd.R_slice HO144.out; subst eo13) | ((with_reducible refine gate_builtin (b := .append) (xs := #[.tmp 14, .tmp 18]) rfl ?_); at_builtin; refine Kd.S_append k42 w.heap.size rfl (.tmp 14) (.tmp 18) 24 42 (.agg #[(.slice none 0 0), (.slice none 0 0)]) 48 rfl Try.underlying24 info42 rfl (by decide) (by omega) u5 x5_1 (⟨t139, t142⟩ : S42) [.slice Ao12 t139.length co12, .slice Ao13 t142.length co13] (fun _ => True) (fun k_ => some k_ = (.slice Ao12 t139.length co12 : Value).ownBlock ∨ some k_ = (.slice Ao13 t142.length co13 : Value).ownBlock) rfl rfl ?aP (fun k_ hk_ => hk_.elim (fun h_ => ((zF (ok' := fun k_ => ((fun _ => True)) k_ ∧ oB u5 k_) (Kd.R_apart' (HO141.out) (Kd.S_typed HO_5.out) (by decide)) (fun k_ hk => ⟨trivial, hk.2⟩))).1 k_ h_.symm) (fun h_ => ((zF (ok' := fun k_ => ((fun _ => True)) k_ ∧ oB u5 k_) (Kd.R_apart' (HO144.out) (Kd.S_typed HO_5.out) (by decide)) (fun k_ hk => ⟨trivial, hk.2⟩))).1 k_ h_.symm)) ?aF ?aO (Below.refl _ _) ?aS ?aL ?_; (case aP => exact k42_mkM _ _ _ (⟨t139, t142⟩ : S42) (zF (Kd.R_tight rfl (zF (ok' := fun k_ => ((fun _ => True)) k_ ∧ oB u5 k_) (Kd.R_apart' (HO141.out) (Kd.S_typed HO_5.out) (by decide)) (fun k_ hk => ⟨trivial, hk.2⟩))) (fun _ h_ => Or.inl h_)) (zF (Kd.R_tight rfl (zF (ok' := fun k_ => ((fun _ => True)) k_ ∧ oB u5 k_) (Kd.R_apart' (HO144.out) (Kd.S_typed HO_5.out) (by decide)) (fun k_ hk => ⟨trivial, hk.2⟩))) (fun _ h_ => Or.inr (h_)))); (case aF => exact (fun _ _ => trivial)); (case aO => exact (mS HO_5 (fun k_ hk => ⟨trivial, fun e_ => e_.elim (fun h_ => hk.1.2 h_) (fun h_ => hk.2 h_)⟩))); (case aS => exact (keep_size (w := w) (g := g) (row := none) (kR4 HK))); (case aL => have := LMc9.out; omega); intro v148 w11 ho hb hg hat; rw [← Ny147.out] at ho; replace HI0 := yD (IsS101.grown (kR2 HI0) hg (IsS101.own_neS HI0.out HO_5.out (by decide))); replace HB := yD (below_weaken (kR3 HB) HL.out hb); replace HK := yD (KeepBut.trans (kR4 HK) (KeepBut.of_grown hg g) (Kd.S_base2 HO_5.out)); have HO149 := yD (ho); clear HO_5 HO141 HO144; clear ho hb hg hat))
     go_roundg k1
     case measure => have := HK1.out; omega
     case rel => exact ⟨(y147), (wrap64 (x6_1 - 1)), (t145), (t146), (by first | rfl | (simp; done) | (simp [*]; done)), H', ⟨by have := HK1.out; omega⟩, ⟨kS HO149⟩, ⟨kR2 HI0⟩, ⟨kR4 HK⟩, ⟨kR3 HB⟩⟩
    · rw [if_neg c9] at H
      exact absurd H (by simp)
   ·
    rw [if_neg c7] at H
    have c7b0 : decide (0 < x6_1) = false := zS c7; clear c7
    simp only [Option.some.injEq, Prod.mk.injEq] at H
    obtain ⟨rfl, rfl, rfl⟩ := H
    go_wp2
    go_ret
    exact ⟨_, by first | rfl | (simp <;> rfl) | (simp [*] <;> rfl), kS HO_5, kR2 HI0, kR3 HB, kR4 HK⟩

/-! ### spec_E8Boxes: function 26 -/
def spec_E8Boxes.f (k : Nat) (l0 : List Int) : Option (Int × (List (S42)) × (List (S42))) := (spec_l00From.f l0).bind fun bt150 => ((spec_l07DrawRank.f bt150.1 bt150.2.1 bt150.2.2).bind fun bt154 => ((spec_l07Draw.f k bt150.1 bt154.2.1 bt154.2.2 bt154.1).bind fun bt157 => ((spec_l07Draw.f k bt150.1 bt157.2.1 bt157.2.2 bt154.1).bind fun bt162 => (some (bt154.1, bt157.1, bt162.1)))))
theorem spec_E8Boxes.mono : ∀ a0 k, LeO (spec_E8Boxes.f k a0) (spec_E8Boxes.f (k + 1) a0) := by
 intro a0 k
 unfold spec_E8Boxes.f
 repeat' (with_reducible first | exact spec_l07Draw.mono _ _ _ _ _ | exact LeO.refl _ | exact LeO.none _ | refine LeO.ite ?_ ?_ | refine LeO.bind ?_ (fun _ => ?_))
set_option maxHeartbeats 8000000 in
set_option maxRecDepth 100000 in
theorem spec_E8Boxes.calls (k : Nat) (A0 : Option Addr) (c0 : Nat) (l0 : List Int) (r1 : Int) (r2 : List (S42)) (r3 : List (S42)) (w : World) (hr0 : Kd.C (Kd.int .u8) w A0 l0.length l0) (hc0 : l0.length ≤ c0) (h : spec_E8Boxes.f k l0 = some (r1, r2, r3)) :
 Calls Try.prog 26 #[.slice A0 l0.length c0] w fun e w' => ∃ v1_ v2_ : Value, e = .returned (.tuple #[.int .i64 r1, v1_, v2_]) ∧ Kd.S k42 42 w' w.heap.size (fun k_ => some k_ ≠ (v2_ : Value).ownBlock) v1_ r2 ∧ Kd.S k42 42 w' w.heap.size (fun k_ => some k_ ≠ (v1_ : Value).ownBlock) v2_ r3 ∧ Below w.heap.size w w' := by
 have HR0 := yD hr0
 have HC0 := yD hc0
 clear hr0 hc0
 have HB := yD (Below.refl w.heap.size w)
 have H : ((spec_l00From.f l0).bind fun bt150 => ((spec_l07DrawRank.f bt150.1 bt150.2.1 bt150.2.2).bind fun bt154 => ((spec_l07Draw.f k bt150.1 bt154.2.1 bt154.2.2 bt154.1).bind fun bt157 => ((spec_l07Draw.f k bt150.1 bt157.2.1 bt157.2.2 bt154.1).bind fun bt162 => (some (bt154.1, bt157.1, bt162.1)))))) = some (r1, r2, r3) := h
 clear h
 obtain ⟨⟨t150, t151, t152⟩, A20, H⟩ := zW_ H
 replace H : ((spec_l07DrawRank.f t150 t151 t152).bind fun bt154 => ((spec_l07Draw.f k t150 bt154.2.1 bt154.2.2 bt154.1).bind fun bt157 => ((spec_l07Draw.f k t150 bt157.2.1 bt157.2.2 bt154.1).bind fun bt162 => (some (bt154.1, bt157.1, bt162.1))))) = some (r1, r2, r3) := H
 have A2 := yD A20
 clear A20
 obtain ⟨⟨t154, t155, t156⟩, A30, H⟩ := zW_ H
 replace H : ((spec_l07Draw.f k t150 t155 t156 t154).bind fun bt157 => ((spec_l07Draw.f k t150 bt157.2.1 bt157.2.2 t154).bind fun bt162 => (some (t154, bt157.1, bt162.1)))) = some (r1, r2, r3) := H
 have A3 := yD A30
 clear A30
 obtain ⟨⟨t157, t160, t161⟩, A40, H⟩ := zW_ H
 replace H : ((spec_l07Draw.f k t150 t160 t161 t154).bind fun bt162 => (some (t154, t157, bt162.1))) = some (r1, r2, r3) := H
 have A4 := yD A40
 clear A40
 obtain ⟨⟨t162, t165, t166⟩, A50, H⟩ := zW_ H
 replace H : (some (t154, t157, t162)) = some (r1, r2, r3) := H
 have A5 := yD A50
 clear A50
 simp only [Option.some.injEq, Prod.mk.injEq] at H
 obtain ⟨rfl, rfl, rfl⟩ := H
 go_enter Try.func26, Try.ntmps26
 go_wp2_with (first | ((with_reducible refine gate_callee (f := 60) rfl ?_); refine gL 10 Try.func60 #[.slice A0 l0.length c0] ?_; (with_reducible refine (spec_l00From.calls _ _ l0 t150 t151 t152 w _ ?side1 ?side2 ?side3 A2.out).mono ?_); (case side1 => exact kR0 HB); (case side2 => exact HR0.out); (case side3 => exact HC0.out); rintro e w6 ⟨g153, rfl, hi, hb, hb2⟩; refine ⟨_, rfl, ?_⟩; replace HB := yD (hb); have HI153 := yD (hi); clear hb hb2 hi) | ((with_reducible refine gate_callee (f := 61) rfl ?_); refine gL 12 Try.func61 #[.pointer (some ⟨g153, 0, none⟩)] ?_; (with_reducible refine (spec_l07DrawRank.calls g153 t150 t151 t152 t154 t155 t156 w _ ?side1 ?side2 A3.out).mono ?_); (case side1 => exact kR2 HI153); (case side2 => exact kR3 HB); rintro e w7 ⟨rfl, hi, hb, hk⟩; refine ⟨_, rfl, ?_⟩; replace HB := yD (hb); replace HI153 := yD (hi); clear hb hk hi) | ((with_reducible refine gate_callee (f := 62) rfl ?_); refine gL 15 Try.func62 #[.pointer (some ⟨g153, 0, none⟩), .int .i64 t154] ?_; (with_reducible refine (spec_l07Draw.calls k g153 t150 t155 t156 t154 t157 t160 t161 w _ ?side1 ?side2 A4.out).mono ?_); (case side1 => exact kR2 HI153); (case side2 => exact kR3 HB); rintro e w8 ⟨v158, rfl, ho0, hi, hb, hk⟩; refine ⟨_, rfl, ?_⟩; have HO159 := yD (zG ho0 (below_size (kR3 HB))); replace HB := yD (hb); replace HI153 := yD (hi); clear hb hk hi ho0) | ((with_reducible refine gate_callee (f := 62) rfl ?_); refine gL 18 Try.func62 #[.pointer (some ⟨g153, 0, none⟩), .int .i64 t154] ?_; (with_reducible refine (spec_l07Draw.calls k g153 t150 t160 t161 t154 t162 t165 t166 w _ ?side1 ?side2 A5.out).mono ?_); (case side1 => exact kR2 HI153); (case side2 => exact kR3 HB); rintro e w9 ⟨v163, rfl, ho0, hi, hb, hk⟩; refine ⟨_, rfl, ?_⟩; have HO164 := yD (zG (zD ho0 (Kd.S_lt (kS HO159))) (below_size (kR3 HB))); replace HO159 := yD (Kd.S_mono (Kd.S_told (Kd.S_oldK (IsS101.apartS (show IsS101 w _ g153 t150 t160 t161 from kR2 HI153) (kS HO159) (by decide)) hk) (Kd.S_base ho0)) (fun _ h_ => h_.1)); replace HB := yD (hb); replace HI153 := yD (hi); clear hb hk hi ho0))
 go_ret3
 exact ⟨_, _, by first | rfl | (simp <;> rfl) | (simp [*] <;> rfl), mS HO159 (fun _ hk => hk.2), mS HO164 (fun _ hk => hk.2), kR3 HB⟩

/-! ### impl_ValidBox: function 104 -/
mutual
def impl_ValidBox.j0 : Nat → Bool → List Int → List Int → Option (Bool)
 | 0, _, _, _ => none
 | k + 1, x17, x168000, x168001 => if x17 = true then (some false) else (impl_ValidBox.l0 k x168000 (x168000.length : Int) 0 x168000 x168001)
def impl_ValidBox.l0 : Nat → List Int → Int → Int → List Int → List Int → Option (Bool)
 | 0, _, _, _, _, _ => none
 | k + 1, x19, x20, x21, x168000, x168001 => if x21 < x20 then (if 0 ≤ x21 then (if x21 < (x19.length : Int) then (if (rd x19 x21) < 0 then (some false) else (if x21 < (x168001.length : Int) then (if (rd x19 x21) ≥ (rd x168001 x21) then (some false) else (if (rd x168001 x21) > 40 then (some false) else (impl_ValidBox.l0 k x19 x20 (wrap64 (x21 + 1)) x168000 x168001))) else (none))) else (none)) else (none)) else (some true)
end
def impl_ValidBox.f (k : Nat) (l0_0 : List Int) (l0_1 : List Int) : Option (Bool) := if (l0_0.length : Int) = (l0_1.length : Int) then (impl_ValidBox.j0 k (decide ((l0_0.length : Int) > 3)) l0_0 l0_1) else (impl_ValidBox.j0 k true l0_0 l0_1)
theorem impl_ValidBox.mono_l : ∀ k, (∀ y0 y1 y2, LeO (impl_ValidBox.j0 k y0 y1 y2) (impl_ValidBox.j0 (k + 1) y0 y1 y2)) ∧ (∀ y0 y1 y2 y3 y4, LeO (impl_ValidBox.l0 k y0 y1 y2 y3 y4) (impl_ValidBox.l0 (k + 1) y0 y1 y2 y3 y4))
 | 0 => ⟨fun _ _ _ r h => by simp [impl_ValidBox.j0] at h, fun _ _ _ _ _ r h => by simp [impl_ValidBox.l0] at h⟩
 | k + 1 => by
  obtain ⟨ih0, ih1⟩ := impl_ValidBox.mono_l k
  refine ⟨?_, ?_⟩
  · intro y0 y1 y2
    unfold impl_ValidBox.j0
    repeat' (with_reducible first | exact ih0 _ _ _ | exact ih1 _ _ _ _ _ | exact LeO.refl _ | exact LeO.none _ | refine LeO.ite ?_ ?_ | refine LeO.bind ?_ (fun _ => ?_))
  · intro y0 y1 y2 y3 y4
    unfold impl_ValidBox.l0
    repeat' (with_reducible first | exact ih0 _ _ _ | exact ih1 _ _ _ _ _ | exact LeO.refl _ | exact LeO.none _ | refine LeO.ite ?_ ?_ | refine LeO.bind ?_ (fun _ => ?_))
theorem impl_ValidBox.mono : ∀ a0 a1 k, LeO (impl_ValidBox.f k a0 a1) (impl_ValidBox.f (k + 1) a0 a1) := by
 intro a0 a1 k
 obtain ⟨ih0, ih1⟩ := impl_ValidBox.mono_l k
 unfold impl_ValidBox.f
 repeat' (with_reducible first | exact ih0 _ _ _ | exact ih1 _ _ _ _ _ | exact LeO.refl _ | exact LeO.none _ | refine LeO.ite ?_ ?_ | refine LeO.bind ?_ (fun _ => ?_))
set_option maxHeartbeats 8000000 in
set_option maxRecDepth 100000 in
theorem impl_ValidBox.calls (k : Nat) (A0_0 : Option Addr) (c0_0 : Nat) (l0_0 : List Int) (A0_1 : Option Addr) (c0_1 : Nat) (l0_1 : List Int) (r : Bool) (w : World) (hr0_0 : Kd.C (Kd.int .i64) w A0_0 l0_0.length l0_0) (hc0_0 : l0_0.length ≤ c0_0) (hr0_1 : Kd.C (Kd.int .i64) w A0_1 l0_1.length l0_1) (hc0_1 : l0_1.length ≤ c0_1) (h : impl_ValidBox.f k l0_0 l0_1 = some r) :
 Calls Try.prog 104 #[.agg #[.slice A0_0 l0_0.length c0_0, .slice A0_1 l0_1.length c0_1]] w fun e w' => e = .returned (.bool r) ∧ Below w.heap.size w w' := by
 have hu42 := Try.underlying42
 have HR0_0 := yD hr0_0
 have HC0_0 := yD hc0_0
 clear hr0_0 hc0_0
 have HR0_1 := yD hr0_1
 have HC0_1 := yD hc0_1
 clear hr0_1 hc0_1
 have HB := yD (Below.refl w.heap.size w)
 have H : (if (l0_0.length : Int) = (l0_1.length : Int) then (impl_ValidBox.j0 k (decide ((l0_0.length : Int) > 3)) l0_0 l0_1) else (impl_ValidBox.j0 k true l0_0 l0_1)) = some r := h
 clear h
 have HC2 := yD H
 clear H; go_enter Try.func104, Try.ntmps104
 go_upto_region 1 with (first | ((with_reducible refine gate_dst (N := 1) rfl ?_); (try (refine gate_guard (by rfl) ?_; dsimp only)); refine box_event ?hg (N := 1) ?hd (cs := #[.slice A0_0 l0_0.length c0_0, .slice A0_1 l0_1.length c0_1]) (t := 42) ?hr ?_; (case hd => rfl); (case hg => rfl); (case hr => first | (go_simp; done) | (go_simp; rfl)); intro gb167 hg w3 hbox hb; have BK167 := yD (hbox); have GW167 := yD ((by rw [hg]; exact (below_size (kB HB)) : w.heap.size ≤ gb167)); have GE167 := yD ((by rw [hg]; exact (below_size (kB HB)) : w.heap.size ≤ gb167)); replace HB := yD (zC (kB HB) hb); clear hb hbox hg))
 (try simp only [Act.put, zH, zI, zJ])
 go_cut [17] (fun v17 wc => ∃ (kq : Nat) (x17_1 : Bool), v17 = .bool x17_1 ∧ Aside0 (impl_ValidBox.j0 kq x17_1 l0_0 l0_1 = some r) ∧ Aside0 (kq ≤ k) ∧ Aside0 (wc.heap[gb167]? = some (.cells #[(.slice A0_0 l0_0.length c0_0), (.slice A0_1 l0_1.length c0_1)] 42 (0, 0))) ∧ Aside0 (Below w.heap.size w wc))
 case first =>
  have H := HC2.out; clear HC2
  by_cases c4 : (l0_0.length : Int) = (l0_1.length : Int)
  ·
   rw [if_pos c4] at H
   have c4b0 : ((l0_0.length : Int) == (l0_1.length : Int)) = true := beq_iff_eq.mpr c4
   have c4b1 : ((l0_0.length : Int) != (l0_1.length : Int)) = false := bne_eq_false_iff_eq.mpr c4
   have c4b2 : (l0_0.length == l0_1.length) = true := by first | simpa using c4 | (simp at c4 ⊢; omega)
   clear c4
   (first | rw [c4b0] | (simp only [i64_w, i32_w]; rw [c4b0]) | (simp only [bne] at c4b0; rw [c4b0]) | skip)
   have H' := yD H
   clear H
   obtain ⟨hcz5_0, hcz5_1⟩ := cz2 BK167.out
   obtain ⟨hfz5_0, hfz5_1⟩ := fz2 BK167.out
   go_wp2
   go_meet
   case rel => exact ⟨_, (decide ((l0_0.length : Int) > 3)), (by first | rfl | (simp; done) | (simp [*]; done)), H', ⟨by first | omega | exact Nat.le_refl _⟩, ⟨kM BK167⟩, ⟨kR1 HB⟩⟩
  ·
   rw [if_neg c4] at H
   have c4b0 : ((l0_0.length : Int) == (l0_1.length : Int)) = false := beq_eq_false_iff_ne.mpr c4
   have c4b1 : ((l0_0.length : Int) != (l0_1.length : Int)) = true := bne_iff_ne.mpr c4
   have c4b2 : (l0_0.length == l0_1.length) = false := by first | simpa using c4 | (simp at c4 ⊢; omega)
   (first | rw [c4b0] | (simp only [i64_w, i32_w]; rw [c4b0]) | (simp only [bne] at c4b0; rw [c4b0]) | skip)
   have H' := yD H
   clear H
   obtain ⟨hcz6_0, hcz6_1⟩ := cz2 BK167.out
   obtain ⟨hfz6_0, hfz6_1⟩ := fz2 BK167.out
   go_wp2
   go_meet
   case rel => exact ⟨_, (true), (by first | rfl | (simp; done) | (simp [*]; done)), H', ⟨by first | omega | exact Nat.le_refl _⟩, ⟨kM BK167⟩, ⟨kR1 HB⟩⟩
 case rest =>
  clear HC2; try clear c4; try clear c4b0; try clear c4b1; try clear c4b2; try clear hcz5_0; try clear hcz5_1; try clear hcz6_0; try clear hcz6_1; try clear hfz5_0; try clear hfz5_1; try clear hfz6_0; try clear hfz6_1
  obtain ⟨kq, x17_1, rfl, HA, HJ1, BK167, HB⟩ := hcut
  cases kq with
  | zero => exact absurd HA.out (by simp [impl_ValidBox.j0])
  | succ kj1 =>
   have H := HA.out; clear HA
   simp only [impl_ValidBox.j0] at H
   by_cases c7 : x17_1 = true
   · subst c7
     replace H : (some false) = some r := (by rw [if_pos rfl] at H; exact H); obtain rfl := Option.some.inj H
     go_wp2
     go_ret
     exact ⟨by first | rfl | (simp <;> rfl) | (simp [*] <;> rfl), kR1 HB⟩
   ·
    replace c7 := Bool.eq_false_iff.mpr c7
    subst c7
    replace H : (impl_ValidBox.l0 kj1 l0_0 (l0_0.length : Int) 0 l0_0 l0_1) = some r := (by rw [if_neg (show ¬ (false = true) by decide)] at H; exact H)
    have H' := yD H
    clear H
    obtain ⟨hcz8_0, hcz8_1⟩ := cz2 BK167.out
    obtain ⟨hfz8_0, hfz8_1⟩ := fz2 BK167.out
    go_wp2
    go_loopg [21] kj1 (fun kq v21 w' => ∃ (x21_2 : Int), v21 = .int .i64 x21_2 ∧ Aside0 (impl_ValidBox.l0 kq l0_0 (l0_0.length : Int) x21_2 l0_0 l0_1 = some r) ∧ Aside0 (kq ≤ kj1) ∧ Aside0 (w'.heap[gb167]? = some (.cells #[(.slice A0_0 l0_0.length c0_0), (.slice A0_1 l0_1.length c0_1)] 42 (0, 0))) ∧ Aside0 (Below w.heap.size w w'))
    case atStart => exact ⟨(0), (by first | rfl | (simp; done) | (simp [*]; done)), H', ⟨Nat.le_refl _⟩, ⟨kM BK167⟩, ⟨kR1 HB⟩⟩
    case round =>
     clear H'
     try clear c1; try clear c4; try clear c4b0; try clear c4b1; try clear c4b2; try clear c7; try clear hcz5_0; try clear hcz5_1; try clear hcz6_0; try clear hcz6_1; try clear hcz8_0; try clear hcz8_1; try clear hfz5_0; try clear hfz5_1; try clear hfz6_0; try clear hfz6_1; try clear hfz8_0; try clear hfz8_1
     obtain ⟨x21_2, rfl, HA, HK2, BK167, HB⟩ := hrel
     cases gk with
     | zero => exact absurd HA.out (by simp [impl_ValidBox.l0])
     | succ k2 =>
      have H := HA.out; clear HA
      simp only [impl_ValidBox.l0] at H
      by_cases c9 : x21_2 < (l0_0.length : Int)
      ·
       rw [if_pos c9] at H
       have c9b0 : decide (x21_2 < (l0_0.length : Int)) = true := zR c9; clear c9
       by_cases c10 : 0 ≤ x21_2
       ·
        rw [if_pos c10] at H
        have c10b0 : decide (0 ≤ x21_2) = true := zR c10; clear c10
        by_cases c11 : x21_2 < (l0_0.length : Int)
        ·
         rw [if_pos c11] at H
         have c11b0 : decide (x21_2 < (l0_0.length : Int)) = true := zR c11; clear c11
         by_cases c12 : (rd l0_0 x21_2) < 0
         · rw [if_pos c12] at H
           have c12b0 : decide ((rd l0_0 x21_2) < 0) = true := zR c12; clear c12; obtain rfl := Option.some.inj H
           have p168 : 0 ≤ (x21_2 : Int) := zP (by assumption)
           have q168 : x21_2 < (l0_0.length : Int) := zP (by assumption)
           obtain ⟨ad168, e168, hx168_0⟩ := Kd.at_int HR0_0.out x21_2 p168 q168
           cases e168
           replace hx168_0 := (HB.out.cell (zQ w _ hx168_0)).trans hx168_0
           replace p168 := eq_true p168; replace q168 := eq_true q168
           go_wp2
           go_ret
           exact ⟨by first | rfl | (simp <;> rfl) | (simp [*] <;> rfl), kR1 HB⟩
         ·
          rw [if_neg c12] at H
          have c12b0 : decide ((rd l0_0 x21_2) < 0) = false := zS c12; clear c12
          by_cases c13 : x21_2 < (l0_1.length : Int)
          ·
           rw [if_pos c13] at H
           have c13b0 : decide (x21_2 < (l0_1.length : Int)) = true := zR c13; clear c13
           by_cases c14 : (rd l0_0 x21_2) ≥ (rd l0_1 x21_2)
           ·
            rw [if_pos c14] at H
            have c14b0 : decide ((rd l0_1 x21_2) ≤ (rd l0_0 x21_2)) = true := zR c14; clear c14; obtain rfl := Option.some.inj H
            have p168 : 0 ≤ (x21_2 : Int) := zP (by assumption)
            have q168 : x21_2 < (l0_0.length : Int) := zP (by assumption)
            obtain ⟨ad168, e168, hx168_0⟩ := Kd.at_int HR0_0.out x21_2 p168 q168
            cases e168
            replace hx168_0 := (HB.out.cell (zQ w _ hx168_0)).trans hx168_0
            replace p168 := eq_true p168; replace q168 := eq_true q168
            obtain ⟨hcz15_0, hcz15_1⟩ := cz2 BK167.out
            obtain ⟨hfz15_0, hfz15_1⟩ := fz2 BK167.out
            have p169 : 0 ≤ (x21_2 : Int) := zP (by assumption)
            have q169 : x21_2 < (l0_1.length : Int) := zP (by assumption)
            obtain ⟨ad169, e169, hx169_0⟩ := Kd.at_int HR0_1.out x21_2 p169 q169
            cases e169
            replace hx169_0 := (HB.out.cell (zQ w _ hx169_0)).trans hx169_0
            replace p169 := eq_true p169; replace q169 := eq_true q169
            go_wp2
            go_ret
            exact ⟨by first | rfl | (simp <;> rfl) | (simp [*] <;> rfl), kR1 HB⟩
           ·
            rw [if_neg c14] at H
            have c14b0 : decide ((rd l0_1 x21_2) ≤ (rd l0_0 x21_2)) = false := zS c14; clear c14
            by_cases c16 : (rd l0_1 x21_2) > 40
            ·
             rw [if_pos c16] at H
             have c16b0 : decide (40 < (rd l0_1 x21_2)) = true := zR c16; clear c16; obtain rfl := Option.some.inj H
             have p168 : 0 ≤ (x21_2 : Int) := zP (by assumption)
             have q168 : x21_2 < (l0_0.length : Int) := zP (by assumption)
             obtain ⟨ad168, e168, hx168_0⟩ := Kd.at_int HR0_0.out x21_2 p168 q168
             cases e168
             replace hx168_0 := (HB.out.cell (zQ w _ hx168_0)).trans hx168_0
             replace p168 := eq_true p168; replace q168 := eq_true q168
             obtain ⟨hcz17_0, hcz17_1⟩ := cz2 BK167.out
             obtain ⟨hfz17_0, hfz17_1⟩ := fz2 BK167.out
             have p169 : 0 ≤ (x21_2 : Int) := zP (by assumption)
             have q169 : x21_2 < (l0_1.length : Int) := zP (by assumption)
             obtain ⟨ad169, e169, hx169_0⟩ := Kd.at_int HR0_1.out x21_2 p169 q169
             cases e169
             replace hx169_0 := (HB.out.cell (zQ w _ hx169_0)).trans hx169_0
             replace p169 := eq_true p169; replace q169 := eq_true q169
             have p170 : 0 ≤ (x21_2 : Int) := zP (by assumption)
             have q170 : x21_2 < (l0_1.length : Int) := zP (by assumption)
             obtain ⟨ad170, e170, hx170_0⟩ := Kd.at_int HR0_1.out x21_2 p170 q170
             obtain rfl : ad169 = ad170 := (by injection e170)
             replace hx170_0 := (HB.out.cell (zQ w _ hx170_0)).trans hx170_0
             replace p170 := eq_true p170; replace q170 := eq_true q170
             go_wp2
             go_ret
             exact ⟨by first | rfl | (simp <;> rfl) | (simp [*] <;> rfl), kR1 HB⟩
            ·
             rw [if_neg c16] at H
             have c16b0 : decide (40 < (rd l0_1 x21_2)) = false := zS c16; clear c16
             have H' := yD H
             clear H
             have p168 : 0 ≤ (x21_2 : Int) := zP (by assumption)
             have q168 : x21_2 < (l0_0.length : Int) := zP (by assumption)
             obtain ⟨ad168, e168, hx168_0⟩ := Kd.at_int HR0_0.out x21_2 p168 q168
             cases e168
             replace hx168_0 := (HB.out.cell (zQ w _ hx168_0)).trans hx168_0
             replace p168 := eq_true p168; replace q168 := eq_true q168
             obtain ⟨hcz18_0, hcz18_1⟩ := cz2 BK167.out
             obtain ⟨hfz18_0, hfz18_1⟩ := fz2 BK167.out
             have p169 : 0 ≤ (x21_2 : Int) := zP (by assumption)
             have q169 : x21_2 < (l0_1.length : Int) := zP (by assumption)
             obtain ⟨ad169, e169, hx169_0⟩ := Kd.at_int HR0_1.out x21_2 p169 q169
             cases e169
             replace hx169_0 := (HB.out.cell (zQ w _ hx169_0)).trans hx169_0
             replace p169 := eq_true p169; replace q169 := eq_true q169
             have p170 : 0 ≤ (x21_2 : Int) := zP (by assumption)
             have q170 : x21_2 < (l0_1.length : Int) := zP (by assumption)
             obtain ⟨ad170, e170, hx170_0⟩ := Kd.at_int HR0_1.out x21_2 p170 q170
             obtain rfl : ad169 = ad170 := (by injection e170)
             replace hx170_0 := (HB.out.cell (zQ w _ hx170_0)).trans hx170_0
             replace p170 := eq_true p170; replace q170 := eq_true q170
             go_wp2
             go_roundg k2
             case measure => have := HJ1.out; have := HK2.out; omega
             case rel => exact ⟨(wrap64 (x21_2 + 1)), (by first | rfl | (simp; done) | (simp [*]; done)), H', ⟨by have := HJ1.out; have := HK2.out; omega⟩, ⟨kM BK167⟩, ⟨kR1 HB⟩⟩
          · rw [if_neg c13] at H
            exact absurd H (by simp)
        · rw [if_neg c11] at H
          exact absurd H (by simp)
       · rw [if_neg c10] at H
         exact absurd H (by simp)
      · rw [if_neg c9] at H
        have c9b0 : decide (x21_2 < (l0_0.length : Int)) = false := zS c9; clear c9; obtain rfl := Option.some.inj H
        go_wp2
        go_ret
        exact ⟨by first | rfl | (simp <;> rfl) | (simp [*] <;> rfl), kR1 HB⟩
/-! ### impl_boxesOk_1: function 103 -/
def impl_boxesOk_1.f (k : Nat) (l0_0 : List Int) (l0_1 : List Int) (l1_0 : List (S42)) : Option (Bool) := (impl_ValidBox.f k l0_0 l0_1).bind fun t172 => (if t172 = true then (if 0 < (l1_0.length : Int) then (some ((l0_0.length : Int) != (((rd_T42 l1_0 0).f0).length : Int))) else (none)) else (some true))
theorem impl_boxesOk_1.mono : ∀ a0 a1 a2 k, LeO (impl_boxesOk_1.f k a0 a1 a2) (impl_boxesOk_1.f (k + 1) a0 a1 a2) := by
 intro a0 a1 a2 k
 unfold impl_boxesOk_1.f
 repeat' (with_reducible first | exact impl_ValidBox.mono _ _ _ | exact LeO.refl _ | exact LeO.none _ | refine LeO.ite ?_ ?_ | refine LeO.bind ?_ (fun _ => ?_))
def impl_boxesOk_1.T1 : Bool × List (List Nat × List Nat) := (true, [([], []), ([0], [0]), ([1], [1]), ([2, 1], [2]), ([3], [3]), ([4, 3], [3, 4]), ([5, 3], [3, 5]), ([3], [3]), ([7, 3], [3, 7]), ([8, 3], [3, 8]), ([9, 3], [3, 9]), ([10, 3], [3, 10]), ([6, 11, 3], [3, 6, 11]), ([3, 12], [3, 12]), ([13, 3, 0, 1, 2, 3, 4, 5, 6, 7, 8, 9, 10, 11, 12, 13], [13])])
def impl_boxesOk_1.B1 : List Nat := [0, 1, 3, 7, 15, 31, 63, 15, 143, 399, 911, 1935, 4095, 8191, 16383]
theorem impl_boxesOk_1.tab1 : rtab .any (opsOf Try.f103 1) = impl_boxesOk_1.T1 := by kernel_rfl
theorem impl_boxesOk_1.bits1 : waitsOk impl_boxesOk_1.T1.2 impl_boxesOk_1.B1 = true := by kernel_rfl
set_option maxHeartbeats 8000000 in
set_option maxRecDepth 100000 in
theorem impl_boxesOk_1.calls (k : Nat) (A0_0 : Option Addr) (c0_0 : Nat) (l0_0 : List Int) (A0_1 : Option Addr) (c0_1 : Nat) (l0_1 : List Int) (g1_0 : Nat) (A1_0 : Option Addr) (c1_0 : Nat) (l1_0 : List (S42)) (r : Bool) (w : World) (hr0_0 : Kd.C (Kd.int .i64) w A0_0 l0_0.length l0_0) (hc0_0 : l0_0.length ≤ c0_0) (hr0_1 : Kd.C (Kd.int .i64) w A0_1 l0_1.length l0_1) (hc0_1 : l0_1.length ≤ c0_1) (hr1_0 : Kd.C k42 w A1_0 l1_0.length l1_0) (hc1_0 : l1_0.length ≤ c1_0) (hb1_0 : w.heap[g1_0]? = some (.cells #[.slice A1_0 l1_0.length c1_0] 24 (0, 0))) (h : impl_boxesOk_1.f k l0_0 l0_1 l1_0 = some r) :
 Calls Try.prog 103 #[.agg #[.slice A0_0 l0_0.length c0_0, .slice A0_1 l0_1.length c0_1], .pointer (some ⟨g1_0, 0, none⟩)] w fun e w' => e = .returned (.bool r) ∧ Below w.heap.size w w' := by
 have hu42 := Try.underlying42
 have HR0_0 := yD hr0_0
 have HC0_0 := yD hc0_0
 clear hr0_0 hc0_0
 have HR0_1 := yD hr0_1
 have HC0_1 := yD hc0_1
 clear hr0_1 hc0_1
 have HR1_0 := yD hr1_0
 have HC1_0 := yD hc1_0
 clear hr1_0 hc1_0
 have BK48 := yD hb1_0
 clear hb1_0
 have HB := yD (Below.refl w.heap.size w)
 have H : ((impl_ValidBox.f k l0_0 l0_1).bind fun t172 => (if t172 = true then (if 0 < (l1_0.length : Int) then (some ((l0_0.length : Int) != (((rd_T42 l1_0 0).f0).length : Int))) else (none)) else (some true))) = some r := h
 clear h
 obtain ⟨t172, A30, H⟩ := zW_ H
 replace H : (if t172 = true then (if 0 < (l1_0.length : Int) then (some ((l0_0.length : Int) != (((rd_T42 l1_0 0).f0).length : Int))) else (none)) else (some true)) = some r := H
 have A3 := yD A30
 clear A30
 by_cases c4 : t172 = true
 ·
  subst c4
  replace H : (if 0 < (l1_0.length : Int) then (some ((l0_0.length : Int) != (((rd_T42 l1_0 0).f0).length : Int))) else (none)) = some r := (by rw [if_pos rfl] at H; exact H)
  by_cases c5 : 0 < (l1_0.length : Int)
  ·
   rw [if_pos c5] at H
   have c5b0 : decide (0 < (l1_0.length : Int)) = true := zR c5
   have c5b1 : decide (0 < l1_0.length) = true := zR (by omega)
   clear c5; obtain rfl := Option.some.inj H; go_enter Try.func103, Try.ntmps103
   try go_wp2_with (first | ((with_reducible refine gate_dst (N := 2) rfl ?_); (try (refine gate_guard (by rfl) ?_; dsimp only)); refine box_event ?hg (N := 2) ?hd (cs := #[.slice A0_0 l0_0.length c0_0, .slice A0_1 l0_1.length c0_1]) (t := 42) ?hr ?_; (case hd => rfl); (case hg => rfl); (case hr => first | (go_simp; done) | (go_simp; rfl)); intro gb171 hg w6 hbox hb; have BK171 := yD (hbox); have GW171 := yD ((by rw [hg]; exact (below_size (kB HB)) : w.heap.size ≤ gb171)); have GE171 := yD ((by rw [hg]; exact (below_size (kB HB)) : w.heap.size ≤ gb171)); replace HB := yD (zC (kB HB) hb); have NB48_171 := yD ((by rw [hg]; exact Nat.ne_of_lt (blk_lt (kN BK48)) : g1_0 ≠ gb171)); have NB171_48 := yD ((by rw [hg]; exact Nat.ne_of_gt (blk_lt (kN BK48)) : gb171 ≠ g1_0)); replace BK48 := yD (zB (kN BK48) hb); clear hb hbox hg))
   have n0_ := yD (yO BK48.out)
   have n1_ := yD (yO BK171.out)
   have n2_ := yD (yP HB.out)
   clear BK48 BK171 HB; have BK48 := n0_; have BK171 := n1_; have HB := n2_; clear n0_ n1_ n2_
   have p173 : 0 ≤ (0 : Int) := (by omega)
   have q173 : 0 < (l1_0.length : Int) := zP (by assumption)
   obtain ⟨ad173, A173_0, c173_0, A173_1, c173_1, e173, hx173_0, hx173_1, hl173_0, hi173_0, hl173_1, hi173_1⟩ := at_T42 HR1_0.out 0 p173 q173
   have hw173_1 := hx173_1
   (try rw [show ((0 : Int)).toNat = 0 from rfl] at hw173_1)
   (try rw [show 0 * 2 = 0 from rfl] at hw173_1)
   (try rw [Addr.add_zero'] at hw173_1)
   have hw173_0 := hx173_0
   (try rw [show ((0 : Int)).toNat = 0 from rfl] at hw173_0)
   (try rw [show 0 * 2 = 0 from rfl] at hw173_0)
   (try rw [Addr.add_zero'] at hw173_0)
   cases e173
   have qi173 : (0 < l1_0.length) = True := eq_true (by omega)
   (try rw [show ((0 : Int)).toNat = 0 from rfl] at hx173_0)
   (try rw [show 0 * 2 = 0 from rfl] at hx173_0)
   (try rw [Addr.add_zero'] at hx173_0)
   (try rw [show ((0 : Int)).toNat = 0 from rfl] at hx173_1)
   (try rw [show 0 * 2 = 0 from rfl] at hx173_1)
   (try rw [Addr.add_zero'] at hx173_1)
   replace hx173_0 := (HB.out.cell (zQ w _ hx173_0)).trans hx173_0
   replace hx173_1 := (HB.out.cell (zQ w _ hx173_1)).trans hx173_1
   have HR173_0 := yD hi173_0
   have HC173_0 := yD hl173_0
   clear hi173_0 hl173_0
   have HR173_1 := yD hi173_1
   have HC173_1 := yD hl173_1
   clear hi173_1 hl173_1; replace p173 := eq_true p173; replace q173 := eq_true q173
   refine start_ (n := 15) (S := fun w' => w'.cell? ⟨gb171, 0, none⟩ = some (.slice A0_0 l0_0.length c0_0) ∧ w'.cell? ⟨gb171, 1, none⟩ = some (.slice A0_1 l0_1.length c0_1) ∧ w'.cell? ⟨g1_0, 0, none⟩ = some (.slice (some ad173) l1_0.length c1_0) ∧ w'.cell? ad173 = some (.slice A173_0 ((rd_T42 l1_0 0).f0).length c173_0) ∧ w'.cell? ⟨ad173.block, ad173.off + 1, none⟩ = some (.slice A173_1 ((rd_T42 l1_0 0).f1).length c173_1)) (ds := []) (bz 15 0) (by kernel_rfl) rfl rfl ⟨(yG BK171.out 0).trans rfl, (yG BK171.out 1).trans rfl, (yG BK48.out 0).trans rfl, ((HB.out.cell (zQ w _ hw173_0)).trans hw173_0), ((HB.out.cell (zQ w _ hw173_1)).trans hw173_1)⟩ (fun hHeld => ?_); refine with_tabW impl_boxesOk_1.tab1 impl_boxesOk_1.bits1 (fun HT_ HW_ => ?_)
   generalize w6.drew = w7 at BK48 BK171 HB HR173_0 HR173_1 hx173_0 hx173_1 hHeld ⊢
   refine qC 0 4 (bz 15 1) HT_ HW_ hHeld ?_ (hy := by rintro w' ⟨s0, s1, s2, s3, s4⟩; go_simp; with_reducible rfl)
   refine one_ (i := 1) (N := some 5) (bz 15 3) rfl rfl (one_of HT_.out (by kernel_rfl)) (by decide) (fun K hK => ?_)
   refine goes_ Try.func104 (by kernel_rfl) rfl #[.agg #[.slice A0_0 l0_0.length c0_0, .slice A0_1 l0_1.length c0_1]] (by rfl) rfl rfl (by (try simp only [zK, zL, zM]); first | done | rfl | (simp only [zN, zO]; rfl)) ?_
   with_reducible refine (impl_ValidBox.calls k _ _ l0_0 _ _ l0_1 true _ ?side1 ?side2 ?side3 ?side4 A3.out).mono ?_
   (case side1 => exact kV (yY HR0_0.out HB.out))
   (case side2 => exact HC0_0.out)
   (case side3 => exact kV (yY HR0_1.out HB.out))
   (case side4 => exact HC0_1.out)
   rintro e w8 ⟨rfl, hb⟩
   refine ⟨_, rfl, ?_⟩
   have n0_ := yD (zB (kN BK48) hb)
   have n1_ := yD (zB (kN BK171) hb)
   have n2_ := yD (zC (kB HB) hb)
   clear BK48 BK171 HB; have BK48 := n0_; have BK171 := n1_; have HB := n2_; clear n0_ n1_ n2_; (try clear hb); (try clear hb2); (try clear hk); (try clear hi)
   refine hK.out _ _ ⟨(yG BK171.out 0).trans rfl, (yG BK171.out 1).trans rfl, (yG BK48.out 0).trans rfl, ((HB.out.cell (zQ w _ hw173_0)).trans hw173_0), ((HB.out.cell (zQ w _ hw173_1)).trans hw173_1)⟩ (fun hHeld => ?_)
   clear hK K
   refine norm_ (a' := ?_) ?_ ?_
   rotate_left
   · show Act.put _ (some 5) _ = _
     simp only [Act.put, zH, zI, zJ, i64_w, i32_w]
     rfl
   refine qA 2 6 (bz 15 7) HT_ ?_
   refine qA 3 7 (bz 15 15) HT_ ?_
   refine qA 4 8 (bz 15 31) HT_ ?_
   refine qC 5 9 (bz 15 63) HT_ HW_ hHeld ?_ (hy := by rintro w' ⟨s0, s1, s2, s3, s4⟩; go_simp; with_reducible rfl)
   refine qA 6 10 (bz 15 127) HT_ ?_
   refine qC 7 11 (bz 15 255) HT_ HW_ hHeld ?_ (hy := by rintro w' ⟨s0, s1, s2, s3, s4⟩; go_simp; with_reducible rfl)
   refine qA 8 12 (bz 15 511) HT_ ?_
   refine qA 9 13 (bz 15 1023) HT_ ?_
   refine qC 10 14 (bz 15 2047) HT_ HW_ hHeld ?_ (hy := by rintro w' ⟨s0, s1, s2, s3, s4⟩; go_simp; with_reducible rfl)
   refine qA 11 15 (bz 15 4095) HT_ ?_
   refine qA 12 16 (bz 15 8191) HT_ ?_
   refine qA 13 17 (bz 15 16383) HT_ ?_
   refine qA 14 3 (bz 15 32767) HT_ ?_
   refine done_ (done_of HT_.out (by kernel_rfl)) ?_
   try go_wp2
   go_ret
   exact ⟨by first | rfl | (simp <;> rfl) | (simp [*] <;> rfl), kR1 HB⟩
  · rw [if_neg c5] at H
    exact absurd H (by simp)
 ·
  replace c4 := Bool.eq_false_iff.mpr c4
  subst c4
  replace H : (some true) = some r := (by rw [if_neg (show ¬ (false = true) by decide)] at H; exact H); obtain rfl := Option.some.inj H; go_enter Try.func103, Try.ntmps103
  try go_wp2_with (first | ((with_reducible refine gate_dst (N := 2) rfl ?_); (try (refine gate_guard (by rfl) ?_; dsimp only)); refine box_event ?hg (N := 2) ?hd (cs := #[.slice A0_0 l0_0.length c0_0, .slice A0_1 l0_1.length c0_1]) (t := 42) ?hr ?_; (case hd => rfl); (case hg => rfl); (case hr => first | (go_simp; done) | (go_simp; rfl)); intro gb171 hg w9 hbox hb; have BK171 := yD (hbox); have GW171 := yD ((by rw [hg]; exact (below_size (kB HB)) : w.heap.size ≤ gb171)); have GE171 := yD ((by rw [hg]; exact (below_size (kB HB)) : w.heap.size ≤ gb171)); replace HB := yD (zC (kB HB) hb); have NB48_171 := yD ((by rw [hg]; exact Nat.ne_of_lt (blk_lt (kN BK48)) : g1_0 ≠ gb171)); have NB171_48 := yD ((by rw [hg]; exact Nat.ne_of_gt (blk_lt (kN BK48)) : gb171 ≠ g1_0)); replace BK48 := yD (zB (kN BK48) hb); clear hb hbox hg))
  have n0_ := yD (yO BK48.out)
  have n1_ := yD (yO BK171.out)
  have n2_ := yD (yP HB.out)
  clear BK48 BK171 HB; have BK48 := n0_; have BK171 := n1_; have HB := n2_; clear n0_ n1_ n2_
  refine start_ (n := 15) (S := fun w' => w'.cell? ⟨gb171, 0, none⟩ = some (.slice A0_0 l0_0.length c0_0) ∧ w'.cell? ⟨gb171, 1, none⟩ = some (.slice A0_1 l0_1.length c0_1)) (ds := []) (bz 15 0) (by kernel_rfl) rfl rfl ⟨(yG BK171.out 0).trans rfl, (yG BK171.out 1).trans rfl⟩ (fun hHeld => ?_); refine with_tabW impl_boxesOk_1.tab1 impl_boxesOk_1.bits1 (fun HT_ HW_ => ?_)
  generalize w9.drew = w10 at BK48 BK171 HB hHeld ⊢
  refine qC 0 4 (bz 15 1) HT_ HW_ hHeld ?_ (hy := by rintro w' ⟨s0, s1⟩; go_simp; with_reducible rfl)
  refine one_ (i := 1) (N := some 5) (bz 15 3) rfl rfl (one_of HT_.out (by kernel_rfl)) (by decide) (fun K hK => ?_)
  refine goes_ Try.func104 (by kernel_rfl) rfl #[.agg #[.slice A0_0 l0_0.length c0_0, .slice A0_1 l0_1.length c0_1]] (by rfl) rfl rfl (by (try simp only [zK, zL, zM]); first | done | rfl | (simp only [zN, zO]; rfl)) ?_
  with_reducible refine (impl_ValidBox.calls k _ _ l0_0 _ _ l0_1 false _ ?side1 ?side2 ?side3 ?side4 A3.out).mono ?_
  (case side1 => exact kV (yY HR0_0.out HB.out))
  (case side2 => exact HC0_0.out)
  (case side3 => exact kV (yY HR0_1.out HB.out))
  (case side4 => exact HC0_1.out)
  rintro e w11 ⟨rfl, hb⟩
  refine ⟨_, rfl, ?_⟩
  have n0_ := yD (zB (kN BK48) hb)
  have n1_ := yD (zB (kN BK171) hb)
  have n2_ := yD (zC (kB HB) hb)
  clear BK48 BK171 HB; have BK48 := n0_; have BK171 := n1_; have HB := n2_; clear n0_ n1_ n2_; (try clear hb); (try clear hb2); (try clear hk); (try clear hi)
  refine hK.out _ _ ⟨(yG BK171.out 0).trans rfl, (yG BK171.out 1).trans rfl⟩ (fun hHeld => ?_)
  clear hK K
  refine norm_ (a' := ?_) ?_ ?_
  rotate_left
  · show Act.put _ (some 5) _ = _
    simp only [Act.put, zH, zI, zJ, i64_w, i32_w]
    rfl
  refine qA 2 6 (bz 15 7) HT_ ?_
  refine qA 3 7 (bz 15 15) HT_ ?_
  refine qB 4 8 (bz 15 31) HT_ ?_
  refine qB 5 9 (bz 15 63) HT_ ?_
  refine qB 6 10 (bz 15 127) HT_ ?_
  refine qB 7 11 (bz 15 255) HT_ ?_
  refine qB 8 12 (bz 15 511) HT_ ?_
  refine qB 9 13 (bz 15 1023) HT_ ?_
  refine qB 10 14 (bz 15 2047) HT_ ?_
  refine qB 11 15 (bz 15 4095) HT_ ?_
  refine qB 12 16 (bz 15 8191) HT_ ?_
  refine qA 13 17 (bz 15 16383) HT_ ?_
  refine qA 14 3 (bz 15 32767) HT_ ?_
  refine done_ (done_of HT_.out (by kernel_rfl)) ?_
  try go_wp2
  go_ret
  exact ⟨by first | rfl | (simp <;> rfl) | (simp [*] <;> rfl), kR1 HB⟩

/-! ### slices_IndexFunc_impl_boxesOk_1: function 105 -/
def slices_IndexFunc_impl_boxesOk_1.l0 : Nat → List (S42) → Int → Int → List (S42) → Option (Int)
 | 0, _, _, _, _ => none
 | k + 1, x0, x7, x8, x49000 => if x8 < x7 then (if 0 ≤ x8 then (if x8 < (x0.length : Int) then ((impl_boxesOk_1.f k ((rd_T42 x0 x8).f0) ((rd_T42 x0 x8).f1) x49000).bind fun t175 => (if t175 = true then (some x8) else (slices_IndexFunc_impl_boxesOk_1.l0 k x0 x7 (wrap64 (x8 + 1)) x49000))) else (none)) else (none)) else (some (-1))
def slices_IndexFunc_impl_boxesOk_1.f (k : Nat) (l0 : List (S42)) (l1_0 : List (S42)) : Option (Int) := slices_IndexFunc_impl_boxesOk_1.l0 k l0 (l0.length : Int) 0 l1_0
theorem slices_IndexFunc_impl_boxesOk_1.mono_l : ∀ k, (∀ y0 y1 y2 y3, LeO (slices_IndexFunc_impl_boxesOk_1.l0 k y0 y1 y2 y3) (slices_IndexFunc_impl_boxesOk_1.l0 (k + 1) y0 y1 y2 y3))
 | 0 => fun _ _ _ _ r h => by simp [slices_IndexFunc_impl_boxesOk_1.l0] at h
 | k + 1 => by
  have ih0 := slices_IndexFunc_impl_boxesOk_1.mono_l k
  · intro y0 y1 y2 y3
    unfold slices_IndexFunc_impl_boxesOk_1.l0
    repeat' (with_reducible first | exact ih0 _ _ _ _ | exact impl_boxesOk_1.mono _ _ _ _ | exact LeO.refl _ | exact LeO.none _ | refine LeO.ite ?_ ?_ | refine LeO.bind ?_ (fun _ => ?_))
theorem slices_IndexFunc_impl_boxesOk_1.mono : ∀ a0 a1 k, LeO (slices_IndexFunc_impl_boxesOk_1.f k a0 a1) (slices_IndexFunc_impl_boxesOk_1.f (k + 1) a0 a1) := by
 intro a0 a1 k
 have ih0 := slices_IndexFunc_impl_boxesOk_1.mono_l k
 unfold slices_IndexFunc_impl_boxesOk_1.f
 repeat' (with_reducible first | exact ih0 _ _ _ _ | exact impl_boxesOk_1.mono _ _ _ _ | exact LeO.refl _ | exact LeO.none _ | refine LeO.ite ?_ ?_ | refine LeO.bind ?_ (fun _ => ?_))
set_option maxHeartbeats 8000000 in
set_option maxRecDepth 100000 in
theorem slices_IndexFunc_impl_boxesOk_1.calls (k : Nat) (A0 : Option Addr) (c0 : Nat) (l0 : List (S42)) (g1_0 : Nat) (A1_0 : Option Addr) (c1_0 : Nat) (l1_0 : List (S42)) (r : Int) (w : World) (hr0 : Kd.C k42 w A0 l0.length l0) (hc0 : l0.length ≤ c0) (hr1_0 : Kd.C k42 w A1_0 l1_0.length l1_0) (hc1_0 : l1_0.length ≤ c1_0) (hb1_0 : w.heap[g1_0]? = some (.cells #[.slice A1_0 l1_0.length c1_0] 24 (0, 0))) (h : slices_IndexFunc_impl_boxesOk_1.f k l0 l1_0 = some r) :
 Calls Try.prog 105 #[.slice A0 l0.length c0, .func (.func 103) #[] #[.pointer (some ⟨g1_0, 0, none⟩)]] w fun e w' => e = .returned (.int .i64 r) ∧ Below w.heap.size w w' := by
 have hu42 := Try.underlying42
 have HR0 := yD hr0
 have HC0 := yD hc0
 clear hr0 hc0
 have HR1_0 := yD hr1_0
 have HC1_0 := yD hc1_0
 clear hr1_0 hc1_0
 have BK48 := yD hb1_0
 clear hb1_0
 have HB := yD (Below.refl w.heap.size w)
 have H : (slices_IndexFunc_impl_boxesOk_1.l0 k l0 (l0.length : Int) 0 l1_0) = some r := h
 clear h
 have H' := yD H
 clear H; go_enter Try.func105, Try.ntmps105
 go_wp2
 go_loopg [8] k (fun kq v8 w' => ∃ (x8_1 : Int), v8 = .int .i64 x8_1 ∧ Aside0 (slices_IndexFunc_impl_boxesOk_1.l0 kq l0 (l0.length : Int) x8_1 l1_0 = some r) ∧ Aside0 (kq ≤ k) ∧ Aside0 (w'.heap[g1_0]? = some (.cells #[(.slice A1_0 l1_0.length c1_0)] 24 (0, 0))) ∧ Aside0 (Below w.heap.size w w'))
 case atStart => exact ⟨(0), (by first | rfl | (simp; done) | (simp [*]; done)), H', ⟨Nat.le_refl _⟩, ⟨kM BK48⟩, ⟨kR1 HB⟩⟩
 case round =>
  clear H'
  try clear c1
  obtain ⟨x8_1, rfl, HA, HK1, BK48, HB⟩ := hrel
  cases gk with
  | zero => exact absurd HA.out (by simp [slices_IndexFunc_impl_boxesOk_1.l0])
  | succ k1 =>
   have H := HA.out; clear HA
   simp only [slices_IndexFunc_impl_boxesOk_1.l0] at H
   by_cases c3 : x8_1 < (l0.length : Int)
   ·
    rw [if_pos c3] at H
    have c3b0 : decide (x8_1 < (l0.length : Int)) = true := zR c3; clear c3
    by_cases c4 : 0 ≤ x8_1
    ·
     rw [if_pos c4] at H
     have c4b0 : decide (0 ≤ x8_1) = true := zR c4; clear c4
     by_cases c5 : x8_1 < (l0.length : Int)
     ·
      rw [if_pos c5] at H
      have c5b0 : decide (x8_1 < (l0.length : Int)) = true := zR c5; clear c5
      obtain ⟨t175, A60, H⟩ := zW_ H
      replace H : (if t175 = true then (some x8_1) else (slices_IndexFunc_impl_boxesOk_1.l0 k1 l0 (l0.length : Int) (wrap64 (x8_1 + 1)) l1_0)) = some r := H
      have A6 := yD A60
      clear A60
      by_cases c7 : t175 = true
      ·
       subst c7
       replace H : (some x8_1) = some r := (by rw [if_pos rfl] at H; exact H); obtain rfl := Option.some.inj H
       have p174 : 0 ≤ (x8_1 : Int) := zP (by assumption)
       have q174 : x8_1 < (l0.length : Int) := zP (by assumption)
       obtain ⟨ad174, A174_0, c174_0, A174_1, c174_1, e174, hx174_0, hx174_1, hl174_0, hi174_0, hl174_1, hi174_1⟩ := at_T42 HR0.out x8_1 p174 q174
       cases e174
       replace hx174_0 := (HB.out.cell (zQ w _ hx174_0)).trans hx174_0
       replace hx174_1 := (HB.out.cell (zQ w _ hx174_1)).trans hx174_1
       have HR174_0 := yD hi174_0
       have HC174_0 := yD hl174_0
       clear hi174_0 hl174_0
       have HR174_1 := yD hi174_1
       have HC174_1 := yD hl174_1
       clear hi174_1 hl174_1; replace p174 := eq_true p174; replace q174 := eq_true q174
       go_wp2_with (first | (go_at_call 103; (with_reducible refine (impl_boxesOk_1.calls k1 _ _ ((rd_T42 l0 x8_1).f0) _ _ ((rd_T42 l0 x8_1).f1) g1_0 A1_0 c1_0 l1_0 true _ ?side1 ?side2 ?side3 ?side4 ?side5 ?side6 ?side7 A6.out).mono ?_); (case side1 => exact kV (yY HR174_0.out HB.out)); (case side2 => exact HC174_0.out); (case side3 => exact kV (yY HR174_1.out HB.out)); (case side4 => exact HC174_1.out); (case side5 => exact kV (yY HR1_0.out HB.out)); (case side6 => exact HC1_0.out); (case side7 => (with_reducible repeat (first | refine yM ?_ _ | refine yO ?_ | refine yN ?_ _)); exact BK48.out); rintro e w8 ⟨rfl, hb⟩; replace BK48 := yD (zB (kN BK48) hb); replace HB := yD (zC (kB HB) hb); clear hb))
       go_ret
       exact ⟨by first | rfl | (simp <;> rfl) | (simp [*] <;> rfl), kR1 HB⟩
      ·
       replace c7 := Bool.eq_false_iff.mpr c7
       subst c7
       replace H : (slices_IndexFunc_impl_boxesOk_1.l0 k1 l0 (l0.length : Int) (wrap64 (x8_1 + 1)) l1_0) = some r := (by rw [if_neg (show ¬ (false = true) by decide)] at H; exact H)
       have H' := yD H
       clear H
       have p174 : 0 ≤ (x8_1 : Int) := zP (by assumption)
       have q174 : x8_1 < (l0.length : Int) := zP (by assumption)
       obtain ⟨ad174, A174_0, c174_0, A174_1, c174_1, e174, hx174_0, hx174_1, hl174_0, hi174_0, hl174_1, hi174_1⟩ := at_T42 HR0.out x8_1 p174 q174
       cases e174
       replace hx174_0 := (HB.out.cell (zQ w _ hx174_0)).trans hx174_0
       replace hx174_1 := (HB.out.cell (zQ w _ hx174_1)).trans hx174_1
       have HR174_0 := yD hi174_0
       have HC174_0 := yD hl174_0
       clear hi174_0 hl174_0
       have HR174_1 := yD hi174_1
       have HC174_1 := yD hl174_1
       clear hi174_1 hl174_1; replace p174 := eq_true p174; replace q174 := eq_true q174
       go_wp2_with (first | (go_at_call 103; (with_reducible refine (impl_boxesOk_1.calls k1 _ _ ((rd_T42 l0 x8_1).f0) _ _ ((rd_T42 l0 x8_1).f1) g1_0 A1_0 c1_0 l1_0 false _ ?side1 ?side2 ?side3 ?side4 ?side5 ?side6 ?side7 A6.out).mono ?_); (case side1 => exact kV (yY HR174_0.out HB.out)); (case side2 => exact HC174_0.out); (case side3 => exact kV (yY HR174_1.out HB.out)); (case side4 => exact HC174_1.out); (case side5 => exact kV (yY HR1_0.out HB.out)); (case side6 => exact HC1_0.out); (case side7 => (with_reducible repeat (first | refine yM ?_ _ | refine yO ?_ | refine yN ?_ _)); exact BK48.out); rintro e w9 ⟨rfl, hb⟩; replace BK48 := yD (zB (kN BK48) hb); replace HB := yD (zC (kB HB) hb); clear hb))
       go_roundg k1
       case measure => have := HK1.out; omega
       case rel => exact ⟨(wrap64 (x8_1 + 1)), (by first | rfl | (simp; done) | (simp [*]; done)), H', ⟨by have := HK1.out; omega⟩, ⟨kM BK48⟩, ⟨kR1 HB⟩⟩
     · rw [if_neg c5] at H
       exact absurd H (by simp)
    · rw [if_neg c4] at H
      exact absurd H (by simp)
   · rw [if_neg c3] at H
     have c3b0 : decide (x8_1 < (l0.length : Int)) = false := zS c3; clear c3; obtain rfl := Option.some.inj H
     go_wp2
     go_ret
     exact ⟨by first | rfl | (simp <;> rfl) | (simp [*] <;> rfl), kR1 HB⟩

/-! ### slices_ContainsFunc_impl_boxesOk_1: function 64 -/
def slices_ContainsFunc_impl_boxesOk_1.f (k : Nat) (l0 : List (S42)) (l1_0 : List (S42)) : Option (Bool) := (slices_IndexFunc_impl_boxesOk_1.f k l0 l1_0).bind fun t176 => (some (decide (t176 ≥ 0)))
theorem slices_ContainsFunc_impl_boxesOk_1.mono : ∀ a0 a1 k, LeO (slices_ContainsFunc_impl_boxesOk_1.f k a0 a1) (slices_ContainsFunc_impl_boxesOk_1.f (k + 1) a0 a1) := by
 intro a0 a1 k
 unfold slices_ContainsFunc_impl_boxesOk_1.f
 repeat' (with_reducible first | exact slices_IndexFunc_impl_boxesOk_1.mono _ _ _ | exact LeO.refl _ | exact LeO.none _ | refine LeO.ite ?_ ?_ | refine LeO.bind ?_ (fun _ => ?_))
set_option maxHeartbeats 8000000 in
set_option maxRecDepth 100000 in
theorem slices_ContainsFunc_impl_boxesOk_1.calls (k : Nat) (A0 : Option Addr) (c0 : Nat) (l0 : List (S42)) (g1_0 : Nat) (A1_0 : Option Addr) (c1_0 : Nat) (l1_0 : List (S42)) (r : Bool) (w : World) (hr0 : Kd.C k42 w A0 l0.length l0) (hc0 : l0.length ≤ c0) (hr1_0 : Kd.C k42 w A1_0 l1_0.length l1_0) (hc1_0 : l1_0.length ≤ c1_0) (hb1_0 : w.heap[g1_0]? = some (.cells #[.slice A1_0 l1_0.length c1_0] 24 (0, 0))) (h : slices_ContainsFunc_impl_boxesOk_1.f k l0 l1_0 = some r) :
 Calls Try.prog 64 #[.slice A0 l0.length c0, .func (.func 103) #[] #[.pointer (some ⟨g1_0, 0, none⟩)]] w fun e w' => e = .returned (.bool r) ∧ Below w.heap.size w w' := by
 have HR0 := yD hr0
 have HC0 := yD hc0
 clear hr0 hc0
 have HR1_0 := yD hr1_0
 have HC1_0 := yD hc1_0
 clear hr1_0 hc1_0
 have BK48 := yD hb1_0
 clear hb1_0
 have HB := yD (Below.refl w.heap.size w)
 have H : ((slices_IndexFunc_impl_boxesOk_1.f k l0 l1_0).bind fun t176 => (some (decide (t176 ≥ 0)))) = some r := h
 clear h
 obtain ⟨t176, A30, H⟩ := zW_ H
 replace H : (some (decide (t176 ≥ 0))) = some r := H
 have A3 := yD A30
 clear A30; obtain rfl := Option.some.inj H; go_enter Try.func64, Try.ntmps64
 go_wp2_with (first | ((with_reducible refine gate_callee (f := 105) rfl ?_); refine gL 7 Try.func105 #[.slice A0 l0.length c0, .func (.func 103) #[] #[.pointer (some ⟨g1_0, 0, none⟩)]] ?_; (with_reducible refine (slices_IndexFunc_impl_boxesOk_1.calls k _ _ l0 g1_0 A1_0 c1_0 l1_0 t176 _ ?side1 ?side2 ?side3 ?side4 ?side5 A3.out).mono ?_); (case side1 => repeat (first | exact HR0.out | (with_reducible first | refine yV ?_ _ | refine yW ?_ _ | refine yX ?_))); (case side2 => exact HC0.out); (case side3 => repeat (first | exact HR1_0.out | (with_reducible first | refine yV ?_ _ | refine yW ?_ _ | refine yX ?_))); (case side4 => exact HC1_0.out); (case side5 => (with_reducible repeat (first | refine yM ?_ _ | refine yO ?_ | refine yN ?_ _)); exact BK48.out); rintro e w4 ⟨rfl, hb⟩; refine ⟨_, rfl, ?_⟩; replace BK48 := yD (zB (kN BK48) hb); replace HB := yD (zC (kB HB) hb); clear hb))
 go_ret
 exact ⟨by first | rfl | (simp <;> rfl) | (simp [*] <;> rfl), kR1 HB⟩

/-! ### impl_boxesOk: function 63 -/
def impl_boxesOk.f (k : Nat) (l0 : List (S42)) : Option (Bool) := if (l0.length : Int) ≤ 32 then ((slices_ContainsFunc_impl_boxesOk_1.f k l0 l0).bind fun t178 => (some (!t178))) else (some false)
theorem impl_boxesOk.mono : ∀ a0 k, LeO (impl_boxesOk.f k a0) (impl_boxesOk.f (k + 1) a0) := by
 intro a0 k
 unfold impl_boxesOk.f
 repeat' (with_reducible first | exact slices_ContainsFunc_impl_boxesOk_1.mono _ _ _ | exact LeO.refl _ | exact LeO.none _ | refine LeO.ite ?_ ?_ | refine LeO.bind ?_ (fun _ => ?_))
set_option maxHeartbeats 8000000 in
set_option maxRecDepth 100000 in
theorem impl_boxesOk.calls (k : Nat) (A0 : Option Addr) (c0 : Nat) (l0 : List (S42)) (r : Bool) (w : World) (hr0 : Kd.C k42 w A0 l0.length l0) (hc0 : l0.length ≤ c0) (h : impl_boxesOk.f k l0 = some r) :
 Calls Try.prog 63 #[.slice A0 l0.length c0] w fun e w' => e = .returned (.bool r) ∧ Below w.heap.size w w' := by
 have HR0 := yD hr0
 have HC0 := yD hc0
 clear hr0 hc0
 have HB := yD (Below.refl w.heap.size w)
 have H : (if (l0.length : Int) ≤ 32 then ((slices_ContainsFunc_impl_boxesOk_1.f k l0 l0).bind fun t178 => (some (!t178))) else (some false)) = some r := h
 clear h
 by_cases c2 : (l0.length : Int) ≤ 32
 ·
  rw [if_pos c2] at H
  have c2b0 : decide ((l0.length : Int) ≤ 32) = true := zR c2
  have c2b1 : decide (l0.length ≤ 32) = true := zR (by omega)
  clear c2
  obtain ⟨t178, A30, H⟩ := zW_ H
  replace H : (some (!t178)) = some r := H
  have A3 := yD A30
  clear A30; obtain rfl := Option.some.inj H; go_enter Try.func63, Try.ntmps63
  go_wp2_with (first | ((with_reducible refine gate_dst (N := 1) rfl ?_); refine box_event ?hg (N := 1) ?hd (cs := #[.slice A0 l0.length c0]) (t := 24) ?hr ?_; (case hd => rfl); (case hg => rfl); (case hr => first | (go_simp; done) | (go_simp; rfl)); intro gb177 hg w4 hbox hb; have BK177 := yD (hbox); have GW177 := yD ((by rw [hg]; exact (below_size (kB HB)) : w.heap.size ≤ gb177)); have GE177 := yD ((by rw [hg]; exact (below_size (kB HB)) : w.heap.size ≤ gb177)); replace HB := yD (zC (kB HB) hb); clear hb hbox hg; have hcz5_0 : w4.cell? ⟨gb177, 0, none⟩ = some (.slice A0 l0.length c0) := (yG BK177.out 0).trans rfl; have hfz5_0 := yR BK177.out 0) | (go_at_call 64; (with_reducible refine (slices_ContainsFunc_impl_boxesOk_1.calls k _ _ l0 gb177 A0 c0 l0 t178 _ ?side1 ?side2 ?side3 ?side4 ?side5 A3.out).mono ?_); (case side1 => exact kV (yY HR0.out HB.out)); (case side2 => exact HC0.out); (case side3 => exact kV (yY HR0.out HB.out)); (case side4 => exact HC0.out); (case side5 => (with_reducible repeat (first | refine yM ?_ _ | refine yO ?_ | refine yN ?_ _)); exact BK177.out); rintro e w6 ⟨rfl, hb⟩; replace BK177 := yD (zB (kN BK177) hb); replace HB := yD (zC (kB HB) hb); clear hb))
  go_ret
  exact ⟨by first | rfl | (simp <;> rfl) | (simp [*] <;> rfl), kR1 HB⟩
 ·
  rw [if_neg c2] at H
  have c2b0 : decide ((l0.length : Int) ≤ 32) = false := zS c2
  have c2b1 : decide (l0.length ≤ 32) = false := zS (by omega)
  clear c2; obtain rfl := Option.some.inj H; go_enter Try.func63, Try.ntmps63
  go_wp2_with (first | ((with_reducible refine gate_dst (N := 1) rfl ?_); refine box_event ?hg (N := 1) ?hd (cs := #[.slice A0 l0.length c0]) (t := 24) ?hr ?_; (case hd => rfl); (case hg => rfl); (case hr => first | (go_simp; done) | (go_simp; rfl)); intro gb177 hg w7 hbox hb; have BK177 := yD (hbox); have GW177 := yD ((by rw [hg]; exact (below_size (kB HB)) : w.heap.size ≤ gb177)); have GE177 := yD ((by rw [hg]; exact (below_size (kB HB)) : w.heap.size ≤ gb177)); replace HB := yD (zC (kB HB) hb); clear hb hbox hg; have hcz8_0 : w7.cell? ⟨gb177, 0, none⟩ = some (.slice A0 l0.length c0) := (yG BK177.out 0).trans rfl; have hfz8_0 := yR BK177.out 0))
  go_ret
  exact ⟨by first | rfl | (simp <;> rfl) | (simp [*] <;> rfl), kR1 HB⟩

/-! ### slices_Grow_nil_900006: function 150 -/
section
open Go.Shelf
def slices_Grow_nil_900006.ren : Go.Shelf.Ren := ⟨fun | 4 => 150 | n => n, fun | 22 => 24 | 25 => 42 | 3 => 3 | 4 => 4 | 9 => 9 | 20 => 20 | 0 => 0 | n => n, fun n => n⟩
theorem slices_Grow_nil_900006.lays : Go.Proofs.Lays8.n4 Try.prog slices_Grow_nil_900006.ren :=
 { mixed := by kernel_rfl, f4 := ⟨Try.f150.name, by decide, Try.func150.trans (congrArg some (by kernel_rfl))⟩, t0 := Try.underlying0, a0 := Try.isAgg0, z0 := Try.sizeOf0, v0 := Try.zeroValue0, t3 := Try.underlying3, a3 := Try.isAgg3, z3 := Try.sizeOf3, v3 := Try.zeroValue3, t4 := Try.underlying4, a4 := Try.isAgg4, z4 := Try.sizeOf4, v4 := Try.zeroValue4, t9 := Try.underlying9, a9 := Try.isAgg9, z9 := Try.sizeOf9, v9 := Try.zeroValue9, t20 := Try.underlying20, a20 := Try.isAgg20, z20 := Try.sizeOf20, v20 := Try.zeroValue20, t22 := Try.underlying24, a22 := Try.isAgg24, z22 := Try.sizeOf24, v22 := Try.zeroValue24 }

def slices_Grow_nil_900006.f (a1 : Int) : Option (List (S42)) := if 0 ≤ a1 ∧ a1 ≤ 1073741824 then some [] else none
theorem slices_Grow_nil_900006.info : (Try.prog.info? 42).map (fun i => (i.zero, i.size, i.bytes)) = some (some (.agg #[(.slice none 0 0), (.slice none 0 0)]), 2, 48) := by kernel_rfl
theorem slices_Grow_nil_900006.calls (a1 : Int) (r : List (S42)) (w : World) (h : slices_Grow_nil_900006.f a1 = some r) :
 Calls Try.prog 150 #[.slice none 0 0, .int .i64 a1] w fun e w' => ∃ v0_ : Value, e = .returned (v0_) ∧ Kd.S k42 42 w' w.heap.size (fun _ => True) v0_ r ∧ Below w.heap.size w w' := by
 unfold slices_Grow_nil_900006.f at h
 split at h
 ·
  rename_i hc
  obtain ⟨h0, h1⟩ := hc
  obtain ⟨c, rfl⟩ : ∃ c : Nat, a1 = (c : Int) := ⟨a1.toNat, by omega⟩
  obtain rfl := Option.some.inj h
  by_cases hc0 : c = 0
  · subst hc0
    refine (Any8.slices_Grow_room slices_Grow_nil_900006.lays none 0 0 0 w (Nat.le_refl _) (by omega) (by omega) (by omega)).mono ?_
    rintro e w' ⟨rfl, rfl⟩
    exact ⟨_, rfl, Kd.S_nil _ _ _ _ _, Below.refl _ _⟩
  ·
   obtain ⟨i0, hi0, hz⟩ := Option.map_eq_some_iff.1 slices_Grow_nil_900006.info
   simp only [Prod.mk.injEq] at hz
   obtain ⟨hz0, hs0, hb0⟩ := hz
   refine (Any8.slices_Grow_grow slices_Grow_nil_900006.lays i0 _ hi0 hz0 (by omega) none 0 0 c [] w (Nat.le_refl _) (by omega) (by rw [hb0]; omega) (by omega) (by simp) (fun _ => rfl) (fun a ha => by cases ha)).mono ?_
   have hG := grownCap_le_maxLen w (0 + c) 0 42 (by unfold maxLen; omega)
   have hg := grownCap_ge w (0 + c) 0 42
   change grownCap w (0 + c) 0 (slices_Grow_nil_900006.ren.t 25) ≤ maxLen at hG
   change 0 + c ≤ grownCap w (0 + c) 0 (slices_Grow_nil_900006.ren.t 25) at hg
   generalize grownCap w (0 + c) 0 (slices_Grow_nil_900006.ren.t 25) = G at hG hg ⊢
   rintro e w' ⟨rfl, rfl⟩
   refine ⟨_, rfl, ⟨fun _ => 0, fun _ _ => trivial, [], ⟨by simp, .inr ⟨w.heap.size, G, ([] : List Value).toArray ++ Builtin.zeroCells (.agg #[(.slice none 0 0), (.slice none 0 0)] : Value).cells (0 + c - 0) ++ Builtin.zeroCells (.agg #[(.slice none 0 0), (.slice none 0 0)] : Value).cells (G - (0 + c)), rfl, Nat.le_refl _, ?_, Nat.zero_le _, hG, ?_, by simp⟩⟩, Reps.none _ _⟩, below_alloc (below_drew (Below.refl _ _)) _⟩
   · show (w.heap.push _)[w.heap.size]? = _
     rw [Array.getElem?_push_size]
     rfl
   · simp only [Array.size_append, size_zeroCells, List.size_toArray, List.length_nil, Nat.zero_add, Nat.sub_zero, ← Nat.add_mul]
     show _ = G * 2
     have : c + (G - c) = G := by omega
     rw [this]
     rfl
 · cases h
end

/-! ### impl_Box: function 131 -/
mutual
def impl_Box.l0 : Nat → List (List (S42)) → Int → List (List (S42)) → Int → Int → Option ((List (S42)))
 | 0, _, _, _, _, _ => none
 | k + 1, x0, x3, x9, x10, x11 => if x11 < x10 then (if 0 ≤ x11 then (if x11 < (x9.length : Int) then (if (wrap64 (x3 + ((rd_L4 x9 x11).length : Int))) < 0 then (none) else (impl_Box.l0 k x0 (wrap64 (x3 + ((rd_L4 x9 x11).length : Int))) x9 x10 (wrap64 (x11 + 1)))) else (none)) else (none)) else ((slices_Grow_nil_900006.f x3).bind fun t180 => (impl_Box.l1 k t180 x0 (x0.length : Int) 0))
def impl_Box.l1 : Nat → List (S42) → List (List (S42)) → Int → Int → Option ((List (S42)))
 | 0, _, _, _, _ => none
 | k + 1, x6, x25, x26, x27 => if x27 < x26 then (if 0 ≤ x27 then (if x27 < (x25.length : Int) then (if x6.length + (rd_L4 x25 x27).length < 2932031007402 then (impl_Box.l1 k (x6 ++ (rd_L4 x25 x27)) x25 x26 (wrap64 (x27 + 1))) else (none)) else (none)) else (none)) else (some x6)
end
def impl_Box.f (k : Nat) (l0 : List (List (S42))) : Option ((List (S42))) := impl_Box.l0 k l0 0 l0 (l0.length : Int) 0
theorem impl_Box.mono_l : ∀ k, (∀ y0 y1 y2 y3 y4, LeO (impl_Box.l0 k y0 y1 y2 y3 y4) (impl_Box.l0 (k + 1) y0 y1 y2 y3 y4)) ∧ (∀ y0 y1 y2 y3, LeO (impl_Box.l1 k y0 y1 y2 y3) (impl_Box.l1 (k + 1) y0 y1 y2 y3))
 | 0 => ⟨fun _ _ _ _ _ r h => by simp [impl_Box.l0] at h, fun _ _ _ _ r h => by simp [impl_Box.l1] at h⟩
 | k + 1 => by
  obtain ⟨ih0, ih1⟩ := impl_Box.mono_l k
  refine ⟨?_, ?_⟩
  · intro y0 y1 y2 y3 y4
    unfold impl_Box.l0
    repeat' (with_reducible first | exact ih0 _ _ _ _ _ | exact ih1 _ _ _ _ | exact LeO.refl _ | exact LeO.none _ | refine LeO.ite ?_ ?_ | refine LeO.bind ?_ (fun _ => ?_))
  · intro y0 y1 y2 y3
    unfold impl_Box.l1
    repeat' (with_reducible first | exact ih0 _ _ _ _ _ | exact ih1 _ _ _ _ | exact LeO.refl _ | exact LeO.none _ | refine LeO.ite ?_ ?_ | refine LeO.bind ?_ (fun _ => ?_))
theorem impl_Box.mono : ∀ a0 k, LeO (impl_Box.f k a0) (impl_Box.f (k + 1) a0) := by
 intro a0 k
 obtain ⟨ih0, ih1⟩ := impl_Box.mono_l k
 unfold impl_Box.f
 repeat' (with_reducible first | exact ih0 _ _ _ _ _ | exact ih1 _ _ _ _ | exact LeO.refl _ | exact LeO.none _ | refine LeO.ite ?_ ?_ | refine LeO.bind ?_ (fun _ => ?_))
set_option maxHeartbeats 8000000 in
set_option maxRecDepth 100000 in
theorem impl_Box.calls (k : Nat) (P0_ : Nat → Prop) (A0 : Option Addr) (c0 : Nat) (l0 : List (List (S42))) (r : List (S42)) (w : World) (hs0 : Kd.V (Kd.slice 42 k42) 24 w w.heap.size (fun k_ => P0_ k_) (.slice A0 l0.length c0) l0) (h : impl_Box.f k l0 = some r) :
 Calls Try.prog 131 #[.slice A0 l0.length c0] w fun e w' => ∃ v0_ : Value, e = .returned (v0_) ∧ Kd.N k42 42 w' w.heap.size (fun k_ => (P0_ k_ ∨ w.heap.size ≤ k_)) v0_ r ∧ Below w.heap.size w w' := by
 have HO0 := yD (show Kd.V (Kd.slice 42 k42) 24 w w.heap.size (fun k_ => (P0_ k_ ∨ w.heap.size ≤ k_)) (.slice A0 l0.length c0) l0 from Kd.V_mono hs0 (fun k_ hk => .inl hk))
 have HB := yD (Below.refl w.heap.size w)
 have H : (impl_Box.l0 k l0 0 l0 (l0.length : Int) 0) = some r := h
 clear h
 have H' := yD H
 clear H; go_enter Try.func131, Try.ntmps131
 go_wp2
 go_loopg [3, 11] k (fun kq v3 v11 w' => ∃ (x3_1 : Int) (x11_1 : Int), v3 = .int .i64 x3_1 ∧ v11 = .int .i64 x11_1 ∧ Aside0 (impl_Box.l0 kq l0 x3_1 l0 (l0.length : Int) x11_1 = some r) ∧ Aside0 (kq ≤ k) ∧ Aside0 (Kd.V (Kd.slice 42 k42) 24 w' w.heap.size (fun k_ => (P0_ k_ ∨ w.heap.size ≤ k_)) (.slice A0 l0.length c0) l0) ∧ Aside0 (Kd.V (Kd.slice 42 k42) 24 w' w.heap.size (fun k_ => (P0_ k_ ∨ w.heap.size ≤ k_)) (.slice A0 l0.length c0) l0) ∧ Aside0 (Below w.heap.size w w'))
 case atStart => exact ⟨(0), (0), (by first | rfl | (simp; done) | (simp [*]; done)), (by first | rfl | (simp; done) | (simp [*]; done)), H', ⟨Nat.le_refl _⟩, ⟨kU HO0⟩, ⟨kU HO0⟩, ⟨kR0 HB⟩⟩
 case round =>
  clear H'
  try clear c1
  obtain ⟨x3_1, x11_1, rfl, rfl, HA, HK1, HO_0, HO_9, HB⟩ := hrel
  cases gk with
  | zero => exact absurd HA.out (by simp [impl_Box.l0])
  | succ k1 =>
   have H := HA.out; clear HA
   simp only [impl_Box.l0] at H
   by_cases c2 : x11_1 < (l0.length : Int)
   ·
    rw [if_pos c2] at H
    have c2b0 : decide (x11_1 < (l0.length : Int)) = true := zR c2; clear c2
    by_cases c3 : 0 ≤ x11_1
    ·
     rw [if_pos c3] at H
     have c3b0 : decide (0 ≤ x11_1) = true := zR c3; clear c3
     by_cases c4 : x11_1 < (l0.length : Int)
     ·
      rw [if_pos c4] at H
      have c4b0 : decide (x11_1 < (l0.length : Int)) = true := zR c4; clear c4
      by_cases c5 : (wrap64 (x3_1 + ((rd_L4 l0 x11_1).length : Int))) < 0
      · rw [if_pos c5] at H
        exact absurd H (by simp)
      ·
       rw [if_neg c5] at H
       have c5b0 : decide ((wrap64 (x3_1 + ((rd_L4 l0 x11_1).length : Int))) < 0) = false := zS c5; clear c5
       have H' := yD H
       clear H
       have p179 : 0 ≤ (x11_1 : Int) := zP (by assumption)
       have q179 : x11_1 < (l0.length : Int) := zP (by assumption)
       obtain ⟨ad179, A179_0, c179_0, e179, hx179_0, hl179_0, hi179_0⟩ := at_L4 (Kd.V_reads' HO_9.out).2.2 x11_1 p179 q179
       cases e179
       obtain ⟨ce179, hce179, hMe179, hcc179⟩ := Kd.V_get HO_9.out [] x11_1 p179 (by first | exact q179 | exact zP (by assumption) | (have e_ := (Kd.V_reads' HO_9.out).1; omega))
       obtain ⟨ua179_0, uc179_0, rfl, ul179_0, ge179_0⟩ := Kd.FK_slice_open hMe179
       have hv179_0 := hcc179 0 _ rfl
       rw [Nat.add_zero, show ((Kd.slice 42 k42)).sz = 1 from rfl, Nat.mul_one] at hv179_0
       replace hv179_0 := Option.some.inj (hv179_0.symm.trans hx179_0)
       injection hv179_0 with hva_ hvn_ hvc_
       rw [hva_] at ge179_0
       rw [hvc_] at ul179_0
       have HL179_0 := yD (show Kd.V k42 42 _ w.heap.size _ _ (rd_L4 l0 x11_1) from Kd.V_mk ul179_0 ge179_0)
       clear hva_ hvn_ hvc_ ge179_0 ul179_0 hcc179 hce179
       have HR179_0 := yD hi179_0
       have HC179_0 := yD hl179_0
       clear hi179_0 hl179_0; replace p179 := eq_true p179; replace q179 := eq_true q179
       go_wp2
       go_roundg k1
       case measure => have := HK1.out; omega
       case rel => exact ⟨(wrap64 (x3_1 + ((rd_L4 l0 x11_1).length : Int))), (wrap64 (x11_1 + 1)), (by first | rfl | (simp; done) | (simp [*]; done)), (by first | rfl | (simp; done) | (simp [*]; done)), H', ⟨by have := HK1.out; omega⟩, ⟨kU HO_0⟩, ⟨kU HO_9⟩, ⟨kR0 HB⟩⟩
     · rw [if_neg c4] at H
       exact absurd H (by simp)
    · rw [if_neg c3] at H
      exact absurd H (by simp)
   ·
    rw [if_neg c2] at H
    have c2b0 : decide (x11_1 < (l0.length : Int)) = false := zS c2; clear c2
    obtain ⟨t180, A60, H⟩ := zW_ H
    replace H : (impl_Box.l1 k1 t180 l0 (l0.length : Int) 0) = some r := H
    have A6 := yD A60
    clear A60
    have H' := yD H
    clear H
    go_wp2_with (first | ((with_reducible refine gate_callee (f := 150) rfl ?_); refine gL 24 Try.func150 #[.slice none 0 0, .int .i64 x3_1] ?_; (with_reducible refine (slices_Grow_nil_900006.calls  x3_1 t180 _ A6.out).mono ?_); rintro e w7 ⟨v181, rfl, ho0, hb⟩; refine ⟨_, rfl, ?_⟩; replace HO_0 := yD (Kd.V_elder' (kU HO_0) (Kd.S_base ho0) hb); replace HO_9 := yD (Kd.V_elder' (kU HO_9) (Kd.S_base ho0) hb); have HO182 := yD (Kd.N_lower (Kd.N_mono (ok' := fun k_ => (P0_ k_ ∨ w.heap.size ≤ k_)) (Kd.S_N (Kd.S_bound ho0)) (fun k_ hk_ => (.inr (Nat.le_trans (below_size (kB HB)) hk_.2.1)))) (below_size (kB HB))); replace HB := yD (zC (kB HB) hb); clear hb ho0))
    (try simp only [Act.put, zH, zI, zJ])
    go_loopg [6, 27] k1 (fun kq v6 v27 w' => ∃ (x6_2 : List (S42)) (x27_2 : Int), v27 = .int .i64 x27_2 ∧ Aside0 (impl_Box.l1 kq x6_2 l0 (l0.length : Int) x27_2 = some r) ∧ Aside0 (kq ≤ k1) ∧ Aside0 (Kd.N k42 42 w' w.heap.size (fun k_ => (P0_ k_ ∨ w.heap.size ≤ k_)) v6 x6_2) ∧ Aside0 (Kd.V (Kd.slice 42 k42) 24 w' w.heap.size (fun k_ => (P0_ k_ ∨ w.heap.size ≤ k_) ∧ oB v6 k_) (.slice A0 l0.length c0) l0) ∧ Aside0 (Below w.heap.size w w'))
    case atStart => exact ⟨(t180), (0), (by first | rfl | (simp; done) | (simp [*]; done)), H', ⟨Nat.le_refl _⟩, ⟨kQ HO182⟩, ⟨kU HO_0⟩, ⟨kR0 HB⟩⟩
    case round =>
     clear H'
     try clear c1; try clear c2; try clear c2b0; try clear c3; try clear c3b0; try clear c4; try clear c4b0; try clear c5; try clear c5b0; try clear hx179_0; try clear p179; try clear q179
     obtain ⟨x6_2, x27_2, rfl, HA, HK2, HO_6, HO_25, HB⟩ := hrel
     cases gk with
     | zero => exact absurd HA.out (by simp [impl_Box.l1])
     | succ k2 =>
      have H := HA.out; clear HA
      simp only [impl_Box.l1] at H
      by_cases c8 : x27_2 < (l0.length : Int)
      ·
       rw [if_pos c8] at H
       have c8b0 : decide (x27_2 < (l0.length : Int)) = true := zR c8; clear c8
       by_cases c9 : 0 ≤ x27_2
       ·
        rw [if_pos c9] at H
        have c9b0 : decide (0 ≤ x27_2) = true := zR c9; clear c9
        by_cases c10 : x27_2 < (l0.length : Int)
        ·
         rw [if_pos c10] at H
         have c10b0 : decide (x27_2 < (l0.length : Int)) = true := zR c10; clear c10
         by_cases c11 : x6_2.length + (rd_L4 l0 x27_2).length < 2932031007402
         ·
          rw [if_pos c11] at H
          have LMc11 := yD c11
          clear c11
          obtain ⟨y184, hy184⟩ : ∃ y_ : List (S42), y_ = (x6_2 ++ (rd_L4 l0 x27_2)) := ⟨_, rfl⟩
          replace H : (impl_Box.l1 k2 y184 l0 (l0.length : Int) (wrap64 (x27_2 + 1))) = some r := by first | (rw [hy184]; with_reducible exact H) | (have H2_ := (Option.bind_some _ _).symm.trans H; rw [hy184]; with_reducible exact H2_) | (have H2_ := (Option.bind_some _ _).symm.trans H; with_reducible exact H2_) | with_reducible exact H | (rw [hy184]; exact H) | exact H
          have Ny184 := yD hy184
          clear hy184
          have H' := yD H
          clear H
          have p183 : 0 ≤ (x27_2 : Int) := zP (by assumption)
          have q183 : x27_2 < (l0.length : Int) := zP (by assumption)
          obtain ⟨ad183, A183_0, c183_0, e183, hx183_0, hl183_0, hi183_0⟩ := at_L4 (Kd.V_reads' HO_25.out).2.2 x27_2 p183 q183
          cases e183
          obtain ⟨ce183, hce183, hMe183, hcc183⟩ := Kd.V_get HO_25.out [] x27_2 p183 (by first | exact q183 | exact zP (by assumption) | (have e_ := (Kd.V_reads' HO_25.out).1; omega))
          obtain ⟨ua183_0, uc183_0, rfl, ul183_0, ge183_0⟩ := Kd.FK_slice_open hMe183
          have hv183_0 := hcc183 0 _ rfl
          rw [Nat.add_zero, show ((Kd.slice 42 k42)).sz = 1 from rfl, Nat.mul_one] at hv183_0
          replace hv183_0 := Option.some.inj (hv183_0.symm.trans hx183_0)
          injection hv183_0 with hva_ hvn_ hvc_
          rw [hva_] at ge183_0
          rw [hvc_] at ul183_0
          have HL183_0 := yD (show Kd.V k42 42 _ w.heap.size _ _ (rd_L4 l0 x27_2) from Kd.V_mk ul183_0 ge183_0)
          clear hva_ hvn_ hvc_ ge183_0 ul183_0 hcc183 hce183
          have HR183_0 := yD hi183_0
          have HC183_0 := yD hl183_0
          clear hi183_0 hl183_0; replace p183 := eq_true p183; replace q183 := eq_true q183
          go_wp2_with (first | ((with_reducible refine gate_builtin (b := .append) (xs := #[.tmp 31, .tmp 32]) rfl ?_); at_builtin; refine Kd.N_append_rows k42 (w0 := w) w.heap.size rfl (.tmp 31) (.tmp 32) 24 42 (.agg #[(.slice none 0 0), (.slice none 0 0)]) 48 rfl Try.underlying24 info42 rfl (by decide) (by omega) u6 x6_2 (rd_L4 l0 x27_2) _ _ _ (fun k_ => (P0_ k_ ∨ w.heap.size ≤ k_)) (fun k_ => ((fun k_ => (P0_ k_ ∨ w.heap.size ≤ k_))) k_ ∧ oB u6 k_) rfl rfl ?aO ?aR (fun _ hk => hk) ?aF ?aB ?aS ?aL ?_; (case aR => exact (by skip; exact Kd.V_F (Kd.V_mono (ok' := (fun k_ => ((fun k_ => (P0_ k_ ∨ w.heap.size ≤ k_))) k_ ∧ oB u6 k_)) (HL183_0.out) (fun k_ hk => ⟨hk.1, hk.2⟩)))); (case aB => exact (kB HB)); (case aF => exact (fun k_ hk => (.inr (Nat.le_trans (below_size (kB HB)) hk)))); (case aO => exact (kQ HO_6)); (case aS => exact (below_size (kB HB))); (case aL => have := LMc11.out; omega); intro v185 w12 ho hb hg hat; rw [← Ny184.out] at ho; replace HO_25 := yD (Kd.V_afterv (ok := (fun k_ => (P0_ k_ ∨ w.heap.size ≤ k_))) (kU HO_25) hg hat); replace HL183_0 := yD (Kd.V_afterv (ok := (fun k_ => (P0_ k_ ∨ w.heap.size ≤ k_))) (kU HL183_0) hg hat); replace HB := yD (hb); have HO186 := yD (ho); clear HO_6; clear ho hb hg hat))
          go_roundg k2
          case measure => have := HK1.out; have := HK2.out; omega
          case rel => exact ⟨(y184), (wrap64 (x27_2 + 1)), (by first | rfl | (simp; done) | (simp [*]; done)), H', ⟨by have := HK1.out; have := HK2.out; omega⟩, ⟨kQ HO186⟩, ⟨kU HO_25⟩, ⟨kR0 HB⟩⟩
         · rw [if_neg c11] at H
           exact absurd H (by simp)
        · rw [if_neg c10] at H
          exact absurd H (by simp)
       · rw [if_neg c9] at H
         exact absurd H (by simp)
      · rw [if_neg c8] at H
        have c8b0 : decide (x27_2 < (l0.length : Int)) = false := zS c8; clear c8; obtain rfl := Option.some.inj H
        go_wp2
        go_ret
        exact ⟨_, by first | rfl | (simp <;> rfl) | (simp [*] <;> rfl), kQ HO_6, kR0 HB⟩
/-! ### impl_rankOf: function 99 -/
def impl_rankOf.l0 : Nat → List (S42) → Int → Int → Option (Int)
 | 0, _, _, _ => none
 | k + 1, x10, x11, x12 => if x12 < x11 then (if 0 ≤ x12 then (if x12 < (x10.length : Int) then (some (((rd_T42 x10 x12).f0).length : Int)) else (none)) else (none)) else (some 0)
def impl_rankOf.f (k : Nat) (l0 : List (S42)) (l1 : List (S42)) : Option (Int) := (impl_Box.f k (([l0, l1] : List (List (S42))))).bind fun t190 => (impl_rankOf.l0 k t190 (t190.length : Int) 0)
theorem impl_rankOf.mono_l : ∀ k, (∀ y0 y1 y2, LeO (impl_rankOf.l0 k y0 y1 y2) (impl_rankOf.l0 (k + 1) y0 y1 y2))
 | 0 => fun _ _ _ r h => by simp [impl_rankOf.l0] at h
 | k + 1 => by
  have ih0 := impl_rankOf.mono_l k
  · intro y0 y1 y2
    unfold impl_rankOf.l0
    repeat' (with_reducible first | exact ih0 _ _ _ | exact impl_Box.mono _ _ | exact LeO.refl _ | exact LeO.none _ | refine LeO.ite ?_ ?_ | refine LeO.bind ?_ (fun _ => ?_))
theorem impl_rankOf.mono : ∀ a0 a1 k, LeO (impl_rankOf.f k a0 a1) (impl_rankOf.f (k + 1) a0 a1) := by
 intro a0 a1 k
 have ih0 := impl_rankOf.mono_l k
 unfold impl_rankOf.f
 repeat' (with_reducible first | exact ih0 _ _ _ | exact impl_Box.mono _ _ | exact LeO.refl _ | exact LeO.none _ | refine LeO.ite ?_ ?_ | refine LeO.bind ?_ (fun _ => ?_))
set_option maxHeartbeats 8000000 in
set_option maxRecDepth 100000 in
theorem impl_rankOf.calls (k : Nat) (P0_ : Nat → Prop) (A0 : Option Addr) (c0 : Nat) (l0 : List (S42)) (P1_ : Nat → Prop) (A1 : Option Addr) (c1 : Nat) (l1 : List (S42)) (r : Int) (w : World) (hs0 : Kd.V k42 42 w w.heap.size (fun k_ => P0_ k_) (.slice A0 l0.length c0) l0) (hs1 : Kd.V k42 42 w w.heap.size (fun k_ => P1_ k_) (.slice A1 l1.length c1) l1) (h : impl_rankOf.f k l0 l1 = some r) :
 Calls Try.prog 99 #[.slice A0 l0.length c0, .slice A1 l1.length c1] w fun e w' => e = .returned (.int .i64 r) ∧ Below w.heap.size w w' := by
 have hu42 := Try.underlying42
 have HO0 := yD (show Kd.V k42 42 w w.heap.size (fun k_ => ((P0_ k_ ∨ P1_ k_) ∨ w.heap.size ≤ k_)) (.slice A0 l0.length c0) l0 from Kd.V_mono hs0 (fun k_ hk => .inl (.inl hk)))
 have HO1 := yD (show Kd.V k42 42 w w.heap.size (fun k_ => ((P0_ k_ ∨ P1_ k_) ∨ w.heap.size ≤ k_)) (.slice A1 l1.length c1) l1 from Kd.V_mono hs1 (fun k_ hk => .inl (.inr hk)))
 have HB := yD (Below.refl w.heap.size w)
 have H : ((impl_Box.f k (([l0, l1] : List (List (S42))))).bind fun t190 => (impl_rankOf.l0 k t190 (t190.length : Int) 0)) = some r := h
 clear h
 obtain ⟨y187, hy187⟩ : ∃ y_ : List (List (S42)), y_ = (([l0, l1] : List (List (S42)))) := ⟨_, rfl⟩
 replace H : ((impl_Box.f k y187).bind fun t190 => (impl_rankOf.l0 k t190 (t190.length : Int) 0)) = some r := by first | (rw [hy187]; with_reducible exact H) | (have H2_ := (Option.bind_some _ _).symm.trans H; rw [hy187]; with_reducible exact H2_) | (have H2_ := (Option.bind_some _ _).symm.trans H; with_reducible exact H2_) | with_reducible exact H | (rw [hy187]; exact H) | exact H
 have Ny187 := yD hy187
 clear hy187
 obtain ⟨t190, A30, H⟩ := zW_ H
 replace H : (impl_rankOf.l0 k t190 (t190.length : Int) 0) = some r := H
 have A3 := yD A30
 clear A30
 have H' := yD H
 clear H; go_enter Try.func99, Try.ntmps99
 go_wp2_with (first | ((with_reducible refine gate_dst (N := 9) rfl ?_); refine Kd.N_lit (Kd.slice 42 k42) _ 24 ?hg (N' := 9) ?hd (xs := ([l0, l1] : List (List (S42)))) (inner := [.slice A0 l0.length c0, .slice A1 l1.length c1]) (ok := (fun k_ => ((P0_ k_ ∨ P1_ k_) ∨ w.heap.size ≤ k_))) (okp := (fun k_ => ((P0_ k_ ∨ P1_ k_) ∨ w.heap.size ≤ k_))) ?hr ?hp (fun _ hk => hk) ((show ∀ k_, w.heap.size ≤ k_ → (fun k_ => ((P0_ k_ ∨ P1_ k_) ∨ w.heap.size ≤ k_)) k_ from fun k_ hk => (.inr (Nat.le_trans (below_size (kB HB)) hk))) _ (Nat.le_refl _)) (Below.refl _ _) (Nat.le_refl _) (by simp) ?_; (case hd => rfl); (case hg => rfl); (case hr => first | (go_simp; done) | (go_simp; rfl)); (case hp => exact (Reps.one (show Kd.FK (Kd.slice 42 k42) _ _ l0 [.slice A0 l0.length c0] from (Kd.FK_slice_mk (Kd.V_reads' (Kd.V_mono (ok' := (fun k_ => ((P0_ k_ ∨ P1_ k_) ∨ w.heap.size ≤ k_))) (HO0.out) (fun k_ hk => hk))).2.1 (Kd.V_F (Kd.V_mono (ok' := (fun k_ => ((P0_ k_ ∨ P1_ k_) ∨ w.heap.size ≤ k_))) (HO0.out) (fun k_ hk => hk))))) (Reps.one (show Kd.FK (Kd.slice 42 k42) _ _ l1 [.slice A1 l1.length c1] from (Kd.FK_slice_mk (Kd.V_reads' (Kd.V_mono (ok' := (fun k_ => ((P0_ k_ ∨ P1_ k_) ∨ w.heap.size ≤ k_))) (HO1.out) (fun k_ hk => hk))).2.1 (Kd.V_F (Kd.V_mono (ok' := (fun k_ => ((P0_ k_ ∨ P1_ k_) ∨ w.heap.size ≤ k_))) (HO1.out) (fun k_ hk => hk))))) (Reps.none _ _)))); intro v188 w4 ho5 hb hg_ hnew_; clear hg_ hnew_; (first | rw [← Ny187.out] at ho5 | (simp only [Int.reduceToNat] at ho5; rw [← Ny187.out] at ho5)); replace HO0 := yD (Kd.V_elder' (kU HO0) (Kd.N_base ho5) hb); replace HO1 := yD (Kd.V_elder' (kU HO1) (Kd.N_base ho5) hb); have HO189 := yD (Kd.N_lower ho5 (below_size (kB HB))); replace HB := yD (zC (kB HB) hb); clear hb ho5; obtain ⟨Ao6, co6, eo6⟩ := Kd.N_slice HO189.out; subst eo6) | ((with_reducible refine gate_callee (f := 131) rfl ?_); refine gL 10 Try.func131 #[.slice Ao6 y187.length co6] ?_; (with_reducible refine (impl_Box.calls k (fun k_ => ((P0_ k_ ∨ P1_ k_) ∨ w.heap.size ≤ k_)) _ _ y187 t190 _ ?side1 A3.out).mono ?_); (case side1 => exact Kd.N_V (HO189.out)); rintro e w7 ⟨v191, rfl, ho0, hb⟩; refine ⟨_, rfl, ?_⟩; replace HO0 := yD (Kd.V_elder' (kU HO0) (Kd.N_base ho0) hb); replace HO1 := yD (Kd.V_elder' (kU HO1) (Kd.N_base ho0) hb); replace HO189 := yD (Kd.N_elder' (kQ HO189) (Kd.N_base ho0) hb); have HO192 := yD (Kd.N_lower (Kd.N_mono (ok' := fun k_ => ((P0_ k_ ∨ P1_ k_) ∨ w.heap.size ≤ k_)) ho0 (fun k_ hk_ => Or.elim hk_ (fun hs_ => hs_) (fun hn_ => (.inr (Nat.le_trans (below_size (kB HB)) hn_))))) (below_size (kB HB))); replace HB := yD (zC (kB HB) hb); clear hb ho0; obtain ⟨Ao8, co8, eo8⟩ := Kd.N_slice HO192.out; subst eo8))
 (try simp only [Act.put, zH, zI, zJ])
 go_loopg [12] k (fun kq v12 w' => ∃ (x12_1 : Int), v12 = .int .i64 x12_1 ∧ Aside0 (impl_rankOf.l0 kq t190 (t190.length : Int) x12_1 = some r) ∧ Aside0 (kq ≤ k) ∧ Aside0 (Kd.N k42 42 w' w.heap.size (fun k_ => ((P0_ k_ ∨ P1_ k_) ∨ w.heap.size ≤ k_)) (.slice Ao8 t190.length co8) t190) ∧ Aside0 (Below w.heap.size w w'))
 case atStart => exact ⟨(0), (by first | rfl | (simp; done) | (simp [*]; done)), H', ⟨Nat.le_refl _⟩, ⟨kQ HO192⟩, ⟨kR0 HB⟩⟩
 case round =>
  clear H'
  try clear c1
  obtain ⟨x12_1, rfl, HA, HK1, HO_10, HB⟩ := hrel
  cases gk with
  | zero => exact absurd HA.out (by simp [impl_rankOf.l0])
  | succ k1 =>
   have H := HA.out; clear HA
   simp only [impl_rankOf.l0] at H
   by_cases c9 : x12_1 < (t190.length : Int)
   ·
    rw [if_pos c9] at H
    have c9b0 : decide (x12_1 < (t190.length : Int)) = true := zR c9; clear c9
    by_cases c10 : 0 ≤ x12_1
    ·
     rw [if_pos c10] at H
     have c10b0 : decide (0 ≤ x12_1) = true := zR c10; clear c10
     by_cases c11 : x12_1 < (t190.length : Int)
     ·
      rw [if_pos c11] at H
      have c11b0 : decide (x12_1 < (t190.length : Int)) = true := zR c11; clear c11; obtain rfl := Option.some.inj H
      have p193 : 0 ≤ (x12_1 : Int) := zP (by assumption)
      have q193 : x12_1 < (t190.length : Int) := zP (by assumption)
      obtain ⟨ad193, A193_0, c193_0, A193_1, c193_1, e193, hx193_0, hx193_1, hl193_0, hi193_0, hl193_1, hi193_1⟩ := at_T42 (Kd.N_reads' HO_10.out).2.2 x12_1 p193 q193
      cases e193
      obtain ⟨ce193, hce193, hMe193, hcc193⟩ := Kd.N_get HO_10.out z42 x12_1 p193 (by first | exact q193 | exact zP (by assumption) | (have e_ := (Kd.N_reads' HO_10.out).1; omega))
      obtain ⟨ua193_0, uc193_0, ua193_1, uc193_1, rfl, ul193_0, ge193_0, ul193_1, ge193_1⟩ := k42_openF hMe193
      have hv193_0 := hcc193 0 _ rfl
      rw [Nat.add_zero] at hv193_0
      replace hv193_0 := Option.some.inj (hv193_0.symm.trans hx193_0)
      injection hv193_0 with hva_ hvn_ hvc_
      rw [hva_] at ge193_0
      rw [hvc_] at ul193_0
      have HL193_0 := yD (show Kd.V (Kd.int .i64) 2 _ w.heap.size _ _ ((rd_T42 t190 x12_1).f0) from Kd.V_mk ul193_0 ge193_0)
      clear hva_ hvn_ hvc_ ge193_0 ul193_0
      have hv193_1 := hcc193 1 _ rfl
      rw [add_field _ _ 1 (by omega)] at hv193_1
      replace hv193_1 := Option.some.inj (hv193_1.symm.trans hx193_1)
      injection hv193_1 with hva_ hvn_ hvc_
      rw [hva_] at ge193_1
      rw [hvc_] at ul193_1
      have HL193_1 := yD (show Kd.V (Kd.int .i64) 2 _ w.heap.size _ _ ((rd_T42 t190 x12_1).f1) from Kd.V_mk ul193_1 ge193_1)
      clear hva_ hvn_ hvc_ ge193_1 ul193_1 hcc193 hce193
      have HR193_0 := yD hi193_0
      have HC193_0 := yD hl193_0
      clear hi193_0 hl193_0
      have HR193_1 := yD hi193_1
      have HC193_1 := yD hl193_1
      clear hi193_1 hl193_1; replace p193 := eq_true p193; replace q193 := eq_true q193
      go_wp2_with (first | ((with_reducible refine gate_dst (N := 6) rfl ?_); refine box_event ?hg (N := 6) ?hd (cs := #[.slice none 0 0, .slice none 0 0]) (t := 42) ?hr ?_; (case hd => rfl); (case hg => rfl); (case hr => first | (go_simp; done) | (go_simp; rfl)); intro gb194 hg w12 hbox hb; replace HO_10 := yD (Kd.N_below (Kd.N_elderB (kQ HO_10) gb194 (Nat.le_of_eq hg.symm)) hb); replace HL193_0 := yD (Kd.V_below (Kd.V_elderB (kU HL193_0) gb194 (Nat.le_of_eq hg.symm)) hb); replace HL193_1 := yD (Kd.V_below (Kd.V_elderB (kU HL193_1) gb194 (Nat.le_of_eq hg.symm)) hb); replace HR193_0 := yD (yY (by repeat (first | (with_reducible exact HR193_0.out) | (with_reducible first | refine yV ?_ _ | refine yW ?_ _ | refine yX ?_) | exact HR193_0.out)) hb); replace HR193_1 := yD (yY (by repeat (first | (with_reducible exact HR193_1.out) | (with_reducible first | refine yV ?_ _ | refine yW ?_ _ | refine yX ?_) | exact HR193_1.out)) hb); have BK194 := yD (hbox); have GW194 := yD ((by rw [hg]; exact (below_size (kB HB)) : w.heap.size ≤ gb194)); have GE194 := yD ((by rw [hg]; exact (below_size (kB HB)) : w.heap.size ≤ gb194)); replace HB := yD (zC (kB HB) hb); clear hb hbox hg; obtain ⟨hcz13_0, hcz13_1⟩ := cz2 BK194.out; obtain ⟨hfz13_0, hfz13_1⟩ := fz2 BK194.out))
      go_ret
      exact ⟨by first | rfl | (simp <;> rfl) | (simp [*] <;> rfl), kR1 HB⟩
     · rw [if_neg c11] at H
       exact absurd H (by simp)
    · rw [if_neg c10] at H
      exact absurd H (by simp)
   · rw [if_neg c9] at H
     have c9b0 : decide (x12_1 < (t190.length : Int)) = false := zS c9; clear c9; obtain rfl := Option.some.inj H
     go_wp2
     go_ret
     exact ⟨by first | rfl | (simp <;> rfl) | (simp [*] <;> rfl), kR0 HB⟩

/-! ### impl_either: function 57 -/
def impl_either.f (a0 : Bool) (a1 : Bool) : Option (Bool) := if a0 = true then (some true) else (some a1)
set_option maxHeartbeats 8000000 in
set_option maxRecDepth 100000 in
theorem impl_either.calls (a0 : Bool) (a1 : Bool) (r : Bool) (w : World) (h : impl_either.f a0 a1 = some r) :
 Calls Try.prog 57 #[.bool a0, .bool a1] w fun e w' => e = .returned (.bool r) ∧ Drawn0 w w' := by
 have H : (if a0 = true then (some true) else (some a1)) = some r := h
 clear h
 by_cases c3 : a0 = true
 · subst c3
   replace H : (some true) = some r := (by rw [if_pos rfl] at H; exact H); obtain rfl := Option.some.inj H; go_enter Try.func57, Try.ntmps57
   go_wp2
   go_ret
   exact ⟨by first | rfl | (simp; done) | (simp [*]; done), by repeat (first | exact Drawn0.refl _ | apply Drawn0.step)⟩
 ·
  replace c3 := Bool.eq_false_iff.mpr c3
  subst c3
  replace H : (some a1) = some r := (by rw [if_neg (show ¬ (false = true) by decide)] at H; exact H); obtain rfl := Option.some.inj H; go_enter Try.func57, Try.ntmps57
  go_wp2
  go_ret
  exact ⟨by first | rfl | (simp; done) | (simp [*]; done), by repeat (first | exact Drawn0.refl _ | apply Drawn0.step)⟩

/-! ### impl_within: function 106 -/
def impl_within.f (a0 : Int) (a1 : Int) (a2 : Int) : Option (Bool) := if a0 ≥ a1 then (some (decide (a0 ≤ a2))) else (some false)
set_option maxHeartbeats 8000000 in
set_option maxRecDepth 100000 in
theorem impl_within.calls (a0 : Int) (a1 : Int) (a2 : Int) (r : Bool) (w : World) (h : impl_within.f a0 a1 a2 = some r) :
 Calls Try.prog 106 #[.int .i64 a0, .int .i64 a1, .int .i64 a2] w fun e w' => e = .returned (.bool r) ∧ Drawn0 w w' := by
 have H : (if a0 ≥ a1 then (some (decide (a0 ≤ a2))) else (some false)) = some r := h
 clear h
 by_cases c4 : a0 ≥ a1
 · rw [if_pos c4] at H
   have c4b0 : decide (a1 ≤ a0) = true := zR c4; clear c4; obtain rfl := Option.some.inj H; go_enter Try.func106, Try.ntmps106
   go_wp2
   go_ret
   exact ⟨by first | rfl | (simp; done) | (simp [*]; done), by repeat (first | exact Drawn0.refl _ | apply Drawn0.step)⟩
 ·
  rw [if_neg c4] at H
  have c4b0 : decide (a1 ≤ a0) = false := zS c4; clear c4; obtain rfl := Option.some.inj H; go_enter Try.func106, Try.ntmps106
  go_wp2
  go_ret
  exact ⟨by first | rfl | (simp; done) | (simp [*]; done), by repeat (first | exact Drawn0.refl _ | apply Drawn0.step)⟩

/-! ### impl_section: function 123 -/
def impl_section.l0 : Nat → Int → List (S42) → List (S42) → Int → Int → Option ((List (S42)))
 | 0, _, _, _, _, _ => none
 | k + 1, x1, x5, x8, x9, x10 => if x10 < x9 then (if 0 ≤ x10 then (if x10 < (x8.length : Int) then (if 0 < (((rd_T42 x8 x10).f0).length : Int) then (if 0 < (((rd_T42 x8 x10).f1).length : Int) then ((impl_within.f x1 (rd ((rd_T42 x8 x10).f0) 0) (wrap64 ((rd ((rd_T42 x8 x10).f1) 0) - 1))).bind fun t199 => (if t199 = true then (if 1 ≤ (((rd_T42 x8 x10).f0).length : Int) then (if 1 ≤ (((rd_T42 x8 x10).f1).length : Int) then (if x5.length < 2932031007402 then (impl_section.l0 k x1 (x5 ++ [(⟨(((rd_T42 x8 x10).f0).drop 1), (((rd_T42 x8 x10).f1).drop 1)⟩ : S42)]) x8 x9 (wrap64 (x10 + 1))) else (none)) else (none)) else (none)) else (impl_section.l0 k x1 x5 x8 x9 (wrap64 (x10 + 1))))) else (none)) else (none)) else (none)) else (none)) else (some x5)
def impl_section.f (k : Nat) (l0 : List (S42)) (a1 : Int) : Option ((List (S42))) := impl_section.l0 k a1 ([] : List (S42)) l0 (l0.length : Int) 0
theorem impl_section.mono_l : ∀ k, (∀ y0 y1 y2 y3 y4, LeO (impl_section.l0 k y0 y1 y2 y3 y4) (impl_section.l0 (k + 1) y0 y1 y2 y3 y4))
 | 0 => fun _ _ _ _ _ r h => by simp [impl_section.l0] at h
 | k + 1 => by
  have ih0 := impl_section.mono_l k
  · intro y0 y1 y2 y3 y4
    unfold impl_section.l0
    repeat' (with_reducible first | exact ih0 _ _ _ _ _ | exact LeO.refl _ | exact LeO.none _ | refine LeO.ite ?_ ?_ | refine LeO.bind ?_ (fun _ => ?_))
theorem impl_section.mono : ∀ a0 a1 k, LeO (impl_section.f k a0 a1) (impl_section.f (k + 1) a0 a1) := by
 intro a0 a1 k
 have ih0 := impl_section.mono_l k
 unfold impl_section.f
 repeat' (with_reducible first | exact ih0 _ _ _ _ _ | exact LeO.refl _ | exact LeO.none _ | refine LeO.ite ?_ ?_ | refine LeO.bind ?_ (fun _ => ?_))
def impl_section.T5 : Bool × List (List Nat × List Nat) := (true, [([], []), ([], []), ([1], [1]), ([2], [2]), ([3], [3]), ([], []), ([5], [5]), ([6], [6]), ([7], [7]), ([8], [8]), ([0, 4, 9], [0, 4, 9])])
def impl_section.B5 : List Nat := [0, 0, 2, 6, 14, 0, 32, 96, 224, 480, 1023]
theorem impl_section.tab5 : rtab .any (opsOf Try.f123 5) = impl_section.T5 := by kernel_rfl
theorem impl_section.bits5 : waitsOk impl_section.T5.2 impl_section.B5 = true := by kernel_rfl
def impl_section.T6 : Bool × List (List Nat × List Nat) := (true, [([], []), ([], []), ([1], [1]), ([2], [2]), ([], []), ([4], [4]), ([5], [5]), ([3, 6], [3, 6]), ([7], [7]), ([0, 8], [0, 8]), ([9, 9, 0, 1, 2, 3, 4, 5, 6, 7, 8, 9], [0, 9])])
def impl_section.B6 : List Nat := [0, 0, 2, 6, 0, 16, 48, 126, 254, 511, 1023]
theorem impl_section.tab6 : rtab .any (opsOf Try.f123 6) = impl_section.T6 := by kernel_rfl
theorem impl_section.bits6 : waitsOk impl_section.T6.2 impl_section.B6 = true := by kernel_rfl
set_option maxHeartbeats 8000000 in
set_option maxRecDepth 100000 in
theorem impl_section.calls (k : Nat) (P0_ : Nat → Prop) (A0 : Option Addr) (c0 : Nat) (l0 : List (S42)) (a1 : Int) (r : List (S42)) (w : World) (hs0 : Kd.V k42 42 w w.heap.size (fun k_ => P0_ k_) (.slice A0 l0.length c0) l0) (h : impl_section.f k l0 a1 = some r) :
 Calls Try.prog 123 #[.slice A0 l0.length c0, .int .i64 a1] w fun e w' => ∃ v0_ : Value, e = .returned (v0_) ∧ Kd.V k42 42 w' w.heap.size (fun k_ => (P0_ k_ ∨ w.heap.size ≤ k_)) v0_ r ∧ Below w.heap.size w w' := by
 have hu42 := Try.underlying42
 have HO0 := yD (show Kd.V k42 42 w w.heap.size (fun k_ => (P0_ k_ ∨ w.heap.size ≤ k_)) (.slice A0 l0.length c0) l0 from Kd.V_mono hs0 (fun k_ hk => .inl hk))
 have HB := yD (Below.refl w.heap.size w)
 have H : (impl_section.l0 k a1 ([] : List (S42)) l0 (l0.length : Int) 0) = some r := h
 clear h
 have H' := yD H
 clear H; go_enter Try.func123, Try.ntmps123
 go_wp2
 go_loopg [5, 10] k (fun kq v5 v10 w' => ∃ (x5_1 : List (S42)) (x10_1 : Int), v10 = .int .i64 x10_1 ∧ Aside0 (impl_section.l0 kq a1 x5_1 l0 (l0.length : Int) x10_1 = some r) ∧ Aside0 (kq ≤ k) ∧ Aside0 (Kd.N k42 42 w' w.heap.size (fun k_ => (P0_ k_ ∨ w.heap.size ≤ k_)) v5 x5_1) ∧ Aside0 (Kd.V k42 42 w' w.heap.size (fun k_ => (P0_ k_ ∨ w.heap.size ≤ k_) ∧ oB v5 k_) (.slice A0 l0.length c0) l0) ∧ Aside0 (Below w.heap.size w w'))
 case atStart => exact ⟨(([] : List (S42))), (0), (by first | rfl | (simp; done) | (simp [*]; done)), H', ⟨Nat.le_refl _⟩, ⟨by first | exact Kd.S_nil _ _ _ _ _ | exact Kd.N_nil _ _ _ _ _ | exact Kd.V_nil _ _ _ _ _ | exact Kd.Q_nil _ _ _ _ _ | exact Kd.R_nil _ _ _ _ _⟩, ⟨mV HO0 (fun _ hk => ⟨hk, (by simp [oB, Value.ownBlock])⟩)⟩, ⟨kR0 HB⟩⟩
 case round =>
  clear H'
  try clear c1
  obtain ⟨x5_1, x10_1, rfl, HA, HK1, HO_5, HO_8, HB⟩ := hrel
  cases gk with
  | zero => exact absurd HA.out (by simp [impl_section.l0])
  | succ k1 =>
   have H := HA.out; clear HA
   simp only [impl_section.l0] at H
   by_cases c3 : x10_1 < (l0.length : Int)
   ·
    rw [if_pos c3] at H
    have c3b0 : decide (x10_1 < (l0.length : Int)) = true := zR c3; clear c3
    by_cases c4 : 0 ≤ x10_1
    ·
     rw [if_pos c4] at H
     have c4b0 : decide (0 ≤ x10_1) = true := zR c4; clear c4
     by_cases c5 : x10_1 < (l0.length : Int)
     ·
      rw [if_pos c5] at H
      have c5b0 : decide (x10_1 < (l0.length : Int)) = true := zR c5; clear c5
      by_cases c6 : 0 < (((rd_T42 l0 x10_1).f0).length : Int)
      ·
       rw [if_pos c6] at H
       have c6b0 : decide (0 < (((rd_T42 l0 x10_1).f0).length : Int)) = true := zR c6
       have c6b1 : decide (0 < ((rd_T42 l0 x10_1).f0).length) = true := zR (by omega)
       clear c6
       by_cases c7 : 0 < (((rd_T42 l0 x10_1).f1).length : Int)
       ·
        rw [if_pos c7] at H
        have c7b0 : decide (0 < (((rd_T42 l0 x10_1).f1).length : Int)) = true := zR c7
        have c7b1 : decide (0 < ((rd_T42 l0 x10_1).f1).length) = true := zR (by omega)
        clear c7
        obtain ⟨t199, A80, H⟩ := zW_ H
        replace H : (if t199 = true then (if 1 ≤ (((rd_T42 l0 x10_1).f0).length : Int) then (if 1 ≤ (((rd_T42 l0 x10_1).f1).length : Int) then (if x5_1.length < 2932031007402 then (impl_section.l0 k1 a1 (x5_1 ++ [(⟨(((rd_T42 l0 x10_1).f0).drop 1), (((rd_T42 l0 x10_1).f1).drop 1)⟩ : S42)]) l0 (l0.length : Int) (wrap64 (x10_1 + 1))) else (none)) else (none)) else (none)) else (impl_section.l0 k1 a1 x5_1 l0 (l0.length : Int) (wrap64 (x10_1 + 1)))) = some r := H
        have A8 := yD A80
        clear A80
        by_cases c9 : t199 = true
        ·
         subst c9
         replace H : (if 1 ≤ (((rd_T42 l0 x10_1).f0).length : Int) then (if 1 ≤ (((rd_T42 l0 x10_1).f1).length : Int) then (if x5_1.length < 2932031007402 then (impl_section.l0 k1 a1 (x5_1 ++ [(⟨(((rd_T42 l0 x10_1).f0).drop 1), (((rd_T42 l0 x10_1).f1).drop 1)⟩ : S42)]) l0 (l0.length : Int) (wrap64 (x10_1 + 1))) else (none)) else (none)) else (none)) = some r := (by rw [if_pos rfl] at H; exact H)
         by_cases c10 : 1 ≤ (((rd_T42 l0 x10_1).f0).length : Int)
         ·
          rw [if_pos c10] at H
          have c10b0 := eq_true c10
          have c10b1 : decide (1 ≤ (((rd_T42 l0 x10_1).f0).length : Int)) = true := zR c10; clear c10
          obtain ⟨y200, hy200⟩ : ∃ y_ : List Int, y_ = (((rd_T42 l0 x10_1).f0).drop 1) := ⟨_, rfl⟩
          replace H : (if 1 ≤ (((rd_T42 l0 x10_1).f1).length : Int) then (if x5_1.length < 2932031007402 then (impl_section.l0 k1 a1 (x5_1 ++ [(⟨y200, (((rd_T42 l0 x10_1).f1).drop 1)⟩ : S42)]) l0 (l0.length : Int) (wrap64 (x10_1 + 1))) else (none)) else (none)) = some r := by first | (rw [hy200]; with_reducible exact H) | (have H2_ := (Option.bind_some _ _).symm.trans H; rw [hy200]; with_reducible exact H2_) | (have H2_ := (Option.bind_some _ _).symm.trans H; with_reducible exact H2_) | with_reducible exact H | (rw [hy200]; exact H) | exact H
          have Ny200 := yD hy200
          clear hy200
          by_cases c11 : 1 ≤ (((rd_T42 l0 x10_1).f1).length : Int)
          ·
           rw [if_pos c11] at H
           have c11b0 := eq_true c11
           have c11b1 : decide (1 ≤ (((rd_T42 l0 x10_1).f1).length : Int)) = true := zR c11; clear c11
           obtain ⟨y205, hy205⟩ : ∃ y_ : List Int, y_ = (((rd_T42 l0 x10_1).f1).drop 1) := ⟨_, rfl⟩
           replace H : (if x5_1.length < 2932031007402 then (impl_section.l0 k1 a1 (x5_1 ++ [(⟨y200, y205⟩ : S42)]) l0 (l0.length : Int) (wrap64 (x10_1 + 1))) else (none)) = some r := by first | (rw [hy205]; with_reducible exact H) | (have H2_ := (Option.bind_some _ _).symm.trans H; rw [hy205]; with_reducible exact H2_) | (have H2_ := (Option.bind_some _ _).symm.trans H; with_reducible exact H2_) | with_reducible exact H | (rw [hy205]; exact H) | exact H
           have Ny205 := yD hy205
           clear hy205
           by_cases c12 : x5_1.length < 2932031007402
           ·
            rw [if_pos c12] at H
            have LMc12 := yD c12
            clear c12
            obtain ⟨y210, hy210⟩ : ∃ y_ : List (S42), y_ = (x5_1 ++ [(⟨y200, y205⟩ : S42)]) := ⟨_, rfl⟩
            replace H : (impl_section.l0 k1 a1 y210 l0 (l0.length : Int) (wrap64 (x10_1 + 1))) = some r := by first | (rw [hy210]; with_reducible exact H) | (have H2_ := (Option.bind_some _ _).symm.trans H; rw [hy210]; with_reducible exact H2_) | (have H2_ := (Option.bind_some _ _).symm.trans H; with_reducible exact H2_) | with_reducible exact H | (rw [hy210]; exact H) | exact H
            have Ny210 := yD hy210
            clear hy210
            have H' := yD H
            clear H
            have p195 : 0 ≤ (x10_1 : Int) := zP (by assumption)
            have q195 : x10_1 < (l0.length : Int) := zP (by assumption)
            obtain ⟨ad195, A195_0, c195_0, A195_1, c195_1, e195, hx195_0, hx195_1, hl195_0, hi195_0, hl195_1, hi195_1⟩ := at_T42 (Kd.V_reads' HO_8.out).2.2 x10_1 p195 q195
            cases e195
            obtain ⟨ce195, hce195, hMe195, hcc195⟩ := Kd.V_get HO_8.out z42 x10_1 p195 (by first | exact q195 | exact zP (by assumption) | (have e_ := (Kd.V_reads' HO_8.out).1; omega))
            obtain ⟨ua195_0, uc195_0, ua195_1, uc195_1, rfl, ul195_0, ge195_0, ul195_1, ge195_1⟩ := k42_openF hMe195
            have hv195_0 := hcc195 0 _ rfl
            rw [Nat.add_zero] at hv195_0
            replace hv195_0 := Option.some.inj (hv195_0.symm.trans hx195_0)
            injection hv195_0 with hva_ hvn_ hvc_
            rw [hva_] at ge195_0
            rw [hvc_] at ul195_0
            have HL195_0 := yD (show Kd.V (Kd.int .i64) 2 _ w.heap.size _ _ ((rd_T42 l0 x10_1).f0) from Kd.V_mk ul195_0 ge195_0)
            clear hva_ hvn_ hvc_ ge195_0 ul195_0
            have hv195_1 := hcc195 1 _ rfl
            rw [add_field _ _ 1 (by omega)] at hv195_1
            replace hv195_1 := Option.some.inj (hv195_1.symm.trans hx195_1)
            injection hv195_1 with hva_ hvn_ hvc_
            rw [hva_] at ge195_1
            rw [hvc_] at ul195_1
            have HL195_1 := yD (show Kd.V (Kd.int .i64) 2 _ w.heap.size _ _ ((rd_T42 l0 x10_1).f1) from Kd.V_mk ul195_1 ge195_1)
            clear hva_ hvn_ hvc_ ge195_1 ul195_1 hcc195 hce195
            have HR195_0 := yD hi195_0
            have HC195_0 := yD hl195_0
            clear hi195_0 hl195_0
            have HR195_1 := yD hi195_1
            have HC195_1 := yD hl195_1
            clear hi195_1 hl195_1; replace p195 := eq_true p195; replace q195 := eq_true q195
            try go_wp2_with (first | ((with_reducible refine gate_dst (N := 7) rfl ?_); refine box_event ?hg (N := 7) ?hd (cs := #[.slice none 0 0, .slice none 0 0]) (t := 42) ?hr ?_; (case hd => rfl); (case hg => rfl); (case hr => first | (go_simp; done) | (go_simp; rfl)); intro gb196 hg w13 hbox hb; replace HO_5 := yD (Kd.N_below (Kd.N_elderB (kQ HO_5) gb196 (Nat.le_of_eq hg.symm)) hb); replace HO_8 := yD (Kd.V_below (Kd.V_elderB (kU HO_8) gb196 (Nat.le_of_eq hg.symm)) hb); replace HL195_0 := yD (Kd.V_below (Kd.V_elderB (kU HL195_0) gb196 (Nat.le_of_eq hg.symm)) hb); replace HL195_1 := yD (Kd.V_below (Kd.V_elderB (kU HL195_1) gb196 (Nat.le_of_eq hg.symm)) hb); replace HR195_0 := yD (yY (by repeat (first | (with_reducible exact HR195_0.out) | (with_reducible first | refine yV ?_ _ | refine yW ?_ _ | refine yX ?_) | exact HR195_0.out)) hb); replace HR195_1 := yD (yY (by repeat (first | (with_reducible exact HR195_1.out) | (with_reducible first | refine yV ?_ _ | refine yW ?_ _ | refine yX ?_) | exact HR195_1.out)) hb); have BK196 := yD (hbox); have GW196 := yD ((by rw [hg]; exact (below_size (kB HB)) : w.heap.size ≤ gb196)); have GE196 := yD ((by rw [hg]; exact (below_size (kB HB)) : w.heap.size ≤ gb196)); replace HB := yD (zC (kB HB) hb); clear hb hbox hg; obtain ⟨hcz14_0, hcz14_1⟩ := cz2 BK196.out; obtain ⟨hfz14_0, hfz14_1⟩ := fz2 BK196.out))
            have n0_ : Aside0 (Kd.N k42 42 ((w13.setCell ⟨gb196, 0, none⟩ (.slice A195_0 ((rd_T42 l0 x10_1).f0).length c195_0)).setCell ⟨gb196, 1, none⟩ (.slice A195_1 ((rd_T42 l0 x10_1).f1).length c195_1)) w.heap.size (fun k_ => (P0_ k_ ∨ w.heap.size ≤ k_) ∧ k_ ≠ gb196) u5 x5_1) := ⟨by (with_reducible repeat (first | apply Kd.N_alloc | apply Kd.N_drewN | apply Kd.N_drew)); exact Kd.N_mono (Kd.N_far (p := ⟨gb196, 1, none⟩) (Kd.N_far (p := ⟨gb196, 0, none⟩) (Kd.N_mono HO_5.out (fun k_ hk => (⟨hk, hk.2⟩ : _ ∧ k_ ≠ gb196))) (fun _ hk => hk.2) (.slice A195_0 ((rd_T42 l0 x10_1).f0).length c195_0)) (fun _ hk => hk.2) (.slice A195_1 ((rd_T42 l0 x10_1).f1).length c195_1)) (fun _ hk => ⟨hk.1.1, hk.1.2⟩)⟩
            have n1_ : Aside0 (Kd.V k42 42 ((w13.setCell ⟨gb196, 0, none⟩ (.slice A195_0 ((rd_T42 l0 x10_1).f0).length c195_0)).setCell ⟨gb196, 1, none⟩ (.slice A195_1 ((rd_T42 l0 x10_1).f1).length c195_1)) w.heap.size (fun k_ => (P0_ k_ ∨ w.heap.size ≤ k_) ∧ oB u5 k_ ∧ k_ ≠ gb196) (.slice (some ad195) l0.length c0) l0) := ⟨by (with_reducible repeat (first | apply Kd.V_alloc | apply Kd.V_drewN | apply Kd.V_drew)); exact Kd.V_mono (Kd.V_far (p := ⟨gb196, 1, none⟩) (Kd.V_far (p := ⟨gb196, 0, none⟩) (Kd.V_mono HO_8.out (fun k_ hk => (⟨hk, hk.2⟩ : _ ∧ k_ ≠ gb196))) (fun _ hk => hk.2) (.slice A195_0 ((rd_T42 l0 x10_1).f0).length c195_0)) (fun _ hk => hk.2) (.slice A195_1 ((rd_T42 l0 x10_1).f1).length c195_1)) (fun _ hk => ⟨hk.1.1.1, ⟨hk.1.1.2, hk.1.2⟩⟩)⟩
            have n2_ : Aside0 (Kd.V (Kd.int .i64) 2 ((w13.setCell ⟨gb196, 0, none⟩ (.slice A195_0 ((rd_T42 l0 x10_1).f0).length c195_0)).setCell ⟨gb196, 1, none⟩ (.slice A195_1 ((rd_T42 l0 x10_1).f1).length c195_1)) w.heap.size (fun k_ => (P0_ k_ ∨ w.heap.size ≤ k_) ∧ oB u5 k_ ∧ k_ ≠ gb196) (.slice A195_0 ((rd_T42 l0 x10_1).f0).length c195_0) ((rd_T42 l0 x10_1).f0)) := ⟨by (with_reducible repeat (first | apply Kd.V_alloc | apply Kd.V_drewN | apply Kd.V_drew)); exact Kd.V_mono (Kd.V_far (p := ⟨gb196, 1, none⟩) (Kd.V_far (p := ⟨gb196, 0, none⟩) (Kd.V_mono HL195_0.out (fun k_ hk => (⟨hk, hk.2⟩ : _ ∧ k_ ≠ gb196))) (fun _ hk => hk.2) (.slice A195_0 ((rd_T42 l0 x10_1).f0).length c195_0)) (fun _ hk => hk.2) (.slice A195_1 ((rd_T42 l0 x10_1).f1).length c195_1)) (fun _ hk => ⟨hk.1.1.1, ⟨hk.1.1.2, hk.1.2⟩⟩)⟩
            have n3_ : Aside0 (Kd.V (Kd.int .i64) 2 ((w13.setCell ⟨gb196, 0, none⟩ (.slice A195_0 ((rd_T42 l0 x10_1).f0).length c195_0)).setCell ⟨gb196, 1, none⟩ (.slice A195_1 ((rd_T42 l0 x10_1).f1).length c195_1)) w.heap.size (fun k_ => (P0_ k_ ∨ w.heap.size ≤ k_) ∧ oB u5 k_ ∧ k_ ≠ gb196) (.slice A195_1 ((rd_T42 l0 x10_1).f1).length c195_1) ((rd_T42 l0 x10_1).f1)) := ⟨by (with_reducible repeat (first | apply Kd.V_alloc | apply Kd.V_drewN | apply Kd.V_drew)); exact Kd.V_mono (Kd.V_far (p := ⟨gb196, 1, none⟩) (Kd.V_far (p := ⟨gb196, 0, none⟩) (Kd.V_mono HL195_1.out (fun k_ hk => (⟨hk, hk.2⟩ : _ ∧ k_ ≠ gb196))) (fun _ hk => hk.2) (.slice A195_0 ((rd_T42 l0 x10_1).f0).length c195_0)) (fun _ hk => hk.2) (.slice A195_1 ((rd_T42 l0 x10_1).f1).length c195_1)) (fun _ hk => ⟨hk.1.1.1, ⟨hk.1.1.2, hk.1.2⟩⟩)⟩
            have n4_ : Aside0 (((w13.setCell ⟨gb196, 0, none⟩ (.slice A195_0 ((rd_T42 l0 x10_1).f0).length c195_0)).setCell ⟨gb196, 1, none⟩ (.slice A195_1 ((rd_T42 l0 x10_1).f1).length c195_1)).heap[gb196]? = some (.cells #[.slice A195_0 ((rd_T42 l0 x10_1).f0).length c195_0, .slice A195_1 ((rd_T42 l0 x10_1).f1).length c195_1] 42 (0, 0))) := ⟨by (with_reducible repeat (first | refine yM ?_ _ | refine yO ?_ | refine yN ?_ _)); refine blk_put (cs := #[.slice A195_0 ((rd_T42 l0 x10_1).f0).length c195_0, .slice none 0 0]) ?_ 1 _ rfl; (with_reducible repeat (first | refine yM ?_ _ | refine yO ?_ | refine yN ?_ _)); refine blk_put (cs := #[.slice none 0 0, .slice none 0 0]) ?_ 0 _ rfl; (with_reducible repeat (first | refine yM ?_ _ | refine yO ?_ | refine yN ?_ _)); exact BK196.out⟩
            have n5_ : Aside0 (Below w.heap.size w ((w13.setCell ⟨gb196, 0, none⟩ (.slice A195_0 ((rd_T42 l0 x10_1).f0).length c195_0)).setCell ⟨gb196, 1, none⟩ (.slice A195_1 ((rd_T42 l0 x10_1).f1).length c195_1))) := ⟨kR1 HB⟩
            (try clear HO_5); (try clear HO_8); (try clear HL195_0); (try clear HL195_1); (try clear BK196); (try clear HB)
            generalize ((w13.setCell ⟨gb196, 0, none⟩ (.slice A195_0 ((rd_T42 l0 x10_1).f0).length c195_0)).setCell ⟨gb196, 1, none⟩ (.slice A195_1 ((rd_T42 l0 x10_1).f1).length c195_1)) = w15 at n0_ n1_ n2_ n3_ n4_ n5_ ⊢
            have HO_5 := n0_; have HO_8 := n1_; have HL195_0 := n2_; have HL195_1 := n3_; have BK196 := n4_; have HB := n5_; clear n0_ n1_ n2_ n3_ n4_ n5_
            have n0_ := yD (Kd.N_drew HO_5.out)
            have n1_ := yD (Kd.V_drew HO_8.out)
            have n2_ := yD (Kd.V_drew HL195_0.out)
            have n3_ := yD (Kd.V_drew HL195_1.out)
            have n4_ := yD (yO BK196.out)
            have n5_ := yD (yP HB.out)
            clear HO_5 HO_8 HL195_0 HL195_1 BK196 HB; have HO_5 := n0_; have HO_8 := n1_; have HL195_0 := n2_; have HL195_1 := n3_; have BK196 := n4_; have HB := n5_; clear n0_ n1_ n2_ n3_ n4_ n5_
            have p197 : 0 ≤ (0 : Int) := (by omega)
            have q197 : 0 < (((rd_T42 l0 x10_1).f0).length : Int) := zP (by assumption)
            obtain ⟨ad197, e197, hx197_0⟩ := Kd.at_int ((Kd.V_reads' HL195_0.out).2.2) 0 p197 q197
            cases e197
            have qi197 : (0 < ((rd_T42 l0 x10_1).f0).length) = True := eq_true (by omega)
            (try rw [show ((0 : Int)).toNat = 0 from rfl] at hx197_0)
            (try rw [Addr.add_zero'] at hx197_0)
            replace p197 := eq_true p197; replace q197 := eq_true q197
            have p198 : 0 ≤ (0 : Int) := (by omega)
            have q198 : 0 < (((rd_T42 l0 x10_1).f1).length : Int) := zP (by assumption)
            obtain ⟨ad198, e198, hx198_0⟩ := Kd.at_int ((Kd.V_reads' HL195_1.out).2.2) 0 p198 q198
            cases e198
            have qi198 : (0 < ((rd_T42 l0 x10_1).f1).length) = True := eq_true (by omega)
            (try rw [show ((0 : Int)).toNat = 0 from rfl] at hx198_0)
            (try rw [Addr.add_zero'] at hx198_0)
            replace p198 := eq_true p198; replace q198 := eq_true q198
            refine start_ (n := 11) (S := fun w' => w'.cell? ⟨gb196, 0, none⟩ = some (.slice (some ad197) ((rd_T42 l0 x10_1).f0).length c195_0) ∧ w'.cell? ⟨gb196, 1, none⟩ = some (.slice (some ad198) ((rd_T42 l0 x10_1).f1).length c195_1) ∧ w'.cell? ad197 = some (.int .i64 (rd ((rd_T42 l0 x10_1).f0) 0)) ∧ w'.cell? ad198 = some (.int .i64 (rd ((rd_T42 l0 x10_1).f1) 0))) (ds := []) (bz 11 0) (by kernel_rfl) rfl rfl ⟨(yG BK196.out 0).trans rfl, (yG BK196.out 1).trans rfl, hx197_0, hx198_0⟩ (fun hHeld => ?_); refine with_tabW impl_section.tab5 impl_section.bits5 (fun HT_ HW_ => ?_)
            generalize w15.drew = w16 at HO_5 HO_8 HL195_0 HL195_1 BK196 HB hx197_0 hx198_0 hHeld ⊢
            refine qA 0 14 (bz 11 1) HT_ ?_
            refine qA 1 15 (bz 11 3) HT_ ?_
            refine qA 5 19 (bz 11 35) HT_ ?_
            refine qC 2 16 (bz 11 39) HT_ HW_ hHeld ?_ (hy := by rintro w' ⟨s0, s1, s2, s3⟩; go_simp; with_reducible rfl)
            refine qA 3 17 (bz 11 47) HT_ ?_
            refine qC 4 18 (bz 11 63) HT_ HW_ hHeld ?_ (hy := by rintro w' ⟨s0, s1, s2, s3⟩; go_simp; with_reducible rfl)
            refine qC 6 20 (bz 11 127) HT_ HW_ hHeld ?_ (hy := by rintro w' ⟨s0, s1, s2, s3⟩; go_simp; with_reducible rfl)
            refine qA 7 21 (bz 11 255) HT_ ?_
            refine qC 8 22 (bz 11 511) HT_ HW_ hHeld ?_ (hy := by rintro w' ⟨s0, s1, s2, s3⟩; go_simp; with_reducible rfl)
            refine qA 9 23 (bz 11 1023) HT_ ?_
            refine one_ (i := 10) (N := some 24) (bz 11 2047) rfl rfl (one_of HT_.out (by kernel_rfl)) (by decide) (fun K hK => ?_)
            refine goes_ Try.func106 (by kernel_rfl) rfl #[.int .i64 a1, .int .i64 (rd ((rd_T42 l0 x10_1).f0) 0), .int .i64 (wrap64 ((rd ((rd_T42 l0 x10_1).f1) 0) - 1))] (by rfl) rfl rfl (by (try simp only [zK, zL, zM]); first | done | rfl | (simp only [zN, zO]; rfl)) ?_
            with_reducible refine (impl_within.calls a1 (rd ((rd_T42 l0 x10_1).f0) 0) (wrap64 ((rd ((rd_T42 l0 x10_1).f1) 0) - 1)) true _ A8.out).mono ?_
            rintro e w' ⟨rfl, ⟨nd, rfl⟩⟩
            refine ⟨_, rfl, ?_⟩
            refine hK.out _ _ ⟨(yG BK196.out 0).trans rfl, (yG BK196.out 1).trans rfl, hHeld.2.2.1, hHeld.2.2.2⟩ (fun hHeld => ?_)
            clear hK K
            refine norm_ (a' := ?_) ?_ ?_
            rotate_left
            · show Act.put _ (some 24) _ = _
              simp only [Act.put, zH, zI, zJ, i64_w, i32_w]
              rfl
            refine done_ (done_of HT_.out (by kernel_rfl)) ?_
            try go_wp2
            (try (rw [drewN_self w16]; generalize hq_ : World.drewN w16 _ = w16; have n0_ : Aside0 (Kd.V (Kd.int .i64) 2 w16 w.heap.size (fun k_ => (P0_ k_ ∨ w.heap.size ≤ k_) ∧ oB u5 k_ ∧ k_ ≠ gb196) (.slice (some ad197) ((rd_T42 l0 x10_1).f0).length c195_0) ((rd_T42 l0 x10_1).f0)) := ⟨by rw [← hq_]; exact (kU HL195_0)⟩; have n1_ : Aside0 (Kd.V (Kd.int .i64) 2 w16 w.heap.size (fun k_ => (P0_ k_ ∨ w.heap.size ≤ k_) ∧ oB u5 k_ ∧ k_ ≠ gb196) (.slice (some ad198) ((rd_T42 l0 x10_1).f1).length c195_1) ((rd_T42 l0 x10_1).f1)) := ⟨by rw [← hq_]; exact (kU HL195_1)⟩; have n2_ : Aside0 (Kd.N k42 42 w16 w.heap.size (fun k_ => (P0_ k_ ∨ w.heap.size ≤ k_) ∧ k_ ≠ gb196) u5 x5_1) := ⟨by rw [← hq_]; exact (kQ HO_5)⟩; have n3_ : Aside0 (Kd.V k42 42 w16 w.heap.size (fun k_ => (P0_ k_ ∨ w.heap.size ≤ k_) ∧ oB u5 k_ ∧ k_ ≠ gb196) (.slice (some ad195) l0.length c0) l0) := ⟨by rw [← hq_]; exact (kU HO_8)⟩; have n4_ : Aside0 (w16.heap[gb196]? = some (.cells #[.slice (some ad197) ((rd_T42 l0 x10_1).f0).length c195_0, .slice (some ad198) ((rd_T42 l0 x10_1).f1).length c195_1] 42 (0, 0))) := ⟨by rw [← hq_]; exact (kM BK196)⟩; have n5_ : Aside0 (Below w.heap.size w w16) := ⟨by rw [← hq_]; exact (kB HB)⟩; clear HL195_0 HL195_1 HO_5 HO_8 BK196 HB hq_; have HL195_0 := n0_; have HL195_1 := n1_; have HO_5 := n2_; have HO_8 := n3_; have BK196 := n4_; have HB := n5_; clear n0_ n1_ n2_ n3_ n4_ n5_))
            have n0_ := yD (Kd.N_drew HO_5.out)
            have n1_ := yD (Kd.V_drew HO_8.out)
            have n2_ := yD (Kd.V_drew HL195_0.out)
            have n3_ := yD (Kd.V_drew HL195_1.out)
            have n4_ := yD (yO BK196.out)
            have n5_ := yD (yP HB.out)
            clear HO_5 HO_8 HL195_0 HL195_1 BK196 HB; have HO_5 := n0_; have HO_8 := n1_; have HL195_0 := n2_; have HL195_1 := n3_; have BK196 := n4_; have HB := n5_; clear n0_ n1_ n2_ n3_ n4_ n5_
            have q18 : (1 : Int) ≤ ((((rd_T42 l0 x10_1).f0).length : Int) : Int) := zP (by assumption)
            obtain ⟨i018, hi018, _, hsz18, _⟩ := info_parts info2
            have hroom18 : ((rd_T42 l0 x10_1).f0).length ≤ c195_0 := HC195_0.out
            have hC18 : Kd.F (Kd.int .i64) _ _ (some ad197) ((rd_T42 l0 x10_1).f0).length ((rd_T42 l0 x10_1).f0) := (Kd.V_at (base := w.heap.size) HL195_0.out).2.2
            have hcut18 := cut_from (P := Try.prog) 36 2 .i64 Try.underlying36 hi018 1 hsz18 (some ad197) ((rd_T42 l0 x10_1).f0).length c195_0 1 (by omega) q18
            have hr18 := Kd.F_cut (m := (1 : Int).toNat) (c := c195_0) hC18 (by omega) hroom18
            obtain ⟨A18, hA18⟩ : ∃ A1, A1 = (if c195_0 = (1 : Int).toNat then (some ad197) else ((some ad197) : Option Addr).map (·.add ((1 : Int).toNat * 1))) := ⟨_, rfl⟩
            obtain ⟨c18, hc18⟩ : ∃ c1, c1 = c195_0 - (1 : Int).toNat := ⟨_, rfl⟩
            have hy18 : y200.length = ((rd_T42 l0 x10_1).f0).length - (1 : Int).toNat := (by rw [Ny200.out, zN] <;> omega)
            rw [show ((rd_T42 l0 x10_1).f0).drop (1 : Int).toNat = y200 from Ny200.out.symm] at hr18
            replace hr18 : Kd.F (Kd.int .i64) _ _ A18 y200.length y200 := (by rw [hA18]; exact hr18)
            rw [← hy18, ← hA18, ← hc18] at hcut18
            have HO204 := yD (show Kd.V (Kd.int .i64) 2 _ w.heap.size _ (.slice A18 y200.length c18) y200 from Kd.V_mk (by rw [hy18, hc18]; exact Nat.sub_le_sub_right hroom18 _) hr18)
            have HC204 := yD (show y200.length ≤ c18 from by rw [hy18, hc18]; exact Nat.sub_le_sub_right hroom18 _)
            clear hr18 hC18 hroom18 hi018 hsz18 hc18
            have KY18 := yD hy18
            have KA18 := yD hA18
            clear hy18 hA18; replace q18 := eq_true q18
            have q19 : (1 : Int) ≤ ((((rd_T42 l0 x10_1).f1).length : Int) : Int) := zP (by assumption)
            obtain ⟨i019, hi019, _, hsz19, _⟩ := info_parts info2
            have hroom19 : ((rd_T42 l0 x10_1).f1).length ≤ c195_1 := HC195_1.out
            have hC19 : Kd.F (Kd.int .i64) _ _ (some ad198) ((rd_T42 l0 x10_1).f1).length ((rd_T42 l0 x10_1).f1) := (Kd.V_at (base := w.heap.size) HL195_1.out).2.2
            have hcut19 := cut_from (P := Try.prog) 36 2 .i64 Try.underlying36 hi019 1 hsz19 (some ad198) ((rd_T42 l0 x10_1).f1).length c195_1 1 (by omega) q19
            have hr19 := Kd.F_cut (m := (1 : Int).toNat) (c := c195_1) hC19 (by omega) hroom19
            obtain ⟨A19, hA19⟩ : ∃ A1, A1 = (if c195_1 = (1 : Int).toNat then (some ad198) else ((some ad198) : Option Addr).map (·.add ((1 : Int).toNat * 1))) := ⟨_, rfl⟩
            obtain ⟨c19, hc19⟩ : ∃ c1, c1 = c195_1 - (1 : Int).toNat := ⟨_, rfl⟩
            have hy19 : y205.length = ((rd_T42 l0 x10_1).f1).length - (1 : Int).toNat := (by rw [Ny205.out, zN] <;> omega)
            rw [show ((rd_T42 l0 x10_1).f1).drop (1 : Int).toNat = y205 from Ny205.out.symm] at hr19
            replace hr19 : Kd.F (Kd.int .i64) _ _ A19 y205.length y205 := (by rw [hA19]; exact hr19)
            rw [← hy19, ← hA19, ← hc19] at hcut19
            have HO209 := yD (show Kd.V (Kd.int .i64) 2 _ w.heap.size _ (.slice A19 y205.length c19) y205 from Kd.V_mk (by rw [hy19, hc19]; exact Nat.sub_le_sub_right hroom19 _) hr19)
            have HC209 := yD (show y205.length ≤ c19 from by rw [hy19, hc19]; exact Nat.sub_le_sub_right hroom19 _)
            clear hr19 hC19 hroom19 hi019 hsz19 hc19
            have KY19 := yD hy19
            have KA19 := yD hA19
            clear hy19 hA19; replace q19 := eq_true q19
            refine start_ (n := 11) (S := fun w' => w'.cell? ⟨gb196, 0, none⟩ = some (.slice (some ad197) ((rd_T42 l0 x10_1).f0).length c195_0) ∧ w'.cell? ⟨gb196, 1, none⟩ = some (.slice (some ad198) ((rd_T42 l0 x10_1).f1).length c195_1)) (ds := []) (bz 11 0) (by kernel_rfl) rfl rfl ⟨(yG BK196.out 0).trans rfl, (yG BK196.out 1).trans rfl⟩ (fun hHeld => ?_); refine with_tabW impl_section.tab6 impl_section.bits6 (fun HT_ HW_ => ?_)
            generalize w16.drew = w17 at HO_5 HO_8 HL195_0 HL195_1 BK196 HB HO204 HO209 hHeld ⊢
            refine qA 0 25 (bz 11 1) HT_ ?_
            refine qA 1 26 (bz 11 3) HT_ ?_
            refine qA 4 29 (bz 11 19) HT_ ?_
            refine qC 2 27 (bz 11 23) HT_ HW_ hHeld ?_ (hy := by rintro w' ⟨s0, s1⟩; go_simp; with_reducible rfl)
            refine qA 3 28 (bz 11 31) HT_ ?_
            refine qC 5 30 (bz 11 63) HT_ HW_ hHeld ?_ (hy := by rintro w' ⟨s0, s1⟩; go_simp; with_reducible rfl)
            refine qA 6 31 (bz 11 127) HT_ ?_
            refine qA 7 32 (bz 11 255) HT_ ?_
            refine one_ (i := 8) (N := some 33) (bz 11 511) rfl rfl (one_of HT_.out (by kernel_rfl)) (by decide) (fun K hK => ?_)
            refine value_ (w1 := ?_) (v := ?_) (by rfl) rfl ?_ ?_
            rotate_left 2
            · go_simp
              constructor
              · rfl
              · rfl
            refine hK.out _ _ ⟨(yG (yN BK196.out _) 0).trans rfl, (yG (yN BK196.out _) 1).trans rfl⟩ (fun hHeld => ?_)
            clear hK K
            refine norm_ (a' := ?_) ?_ ?_
            rotate_left
            · show Act.put _ (some 33) _ = _
              simp only [Act.put, zH, zI, zJ, i64_w, i32_w]
              rfl
            refine one_ (i := 9) (N := some 34) (bz 11 1023) rfl rfl (one_of HT_.out (by kernel_rfl)) (by decide) (fun K hK => ?_)
            refine Kd.N_append_step k42 (w0 := w) w.heap.size (by rfl) (.tmp 25) (.tmp 33) 24 42 (.agg #[(.slice none 0 0), (.slice none 0 0)]) 48 rfl Try.underlying24 info42 rfl (by decide) (by omega) u5 x5_1 (⟨y200, y205⟩ : S42) [.slice A18 y200.length c18, .slice A19 y205.length c19] (fun k_ => (P0_ k_ ∨ w.heap.size ≤ k_) ∧ k_ ≠ gb196) (fun k_ => ((fun k_ => (P0_ k_ ∨ w.heap.size ≤ k_) ∧ k_ ≠ gb196)) k_ ∧ oB u5 k_) rfl rfl ?aP (fun _ hk => hk) ?aF ?aO ?aB ?aS ?aL ?_
            (case aP => exact (k42_mkF _ _ (⟨y200, y205⟩ : S42) (Kd.V_reads' (Kd.V_mono (ok' := (fun k_ => ((fun k_ => (P0_ k_ ∨ w.heap.size ≤ k_) ∧ k_ ≠ gb196)) k_ ∧ oB u5 k_)) (HO204.out) (fun k_ hk => ⟨⟨hk.1, hk.2.2⟩, hk.2.1⟩))).2.1 (Kd.V_F (Kd.V_mono (ok' := (fun k_ => ((fun k_ => (P0_ k_ ∨ w.heap.size ≤ k_) ∧ k_ ≠ gb196)) k_ ∧ oB u5 k_)) (HO204.out) (fun k_ hk => ⟨⟨hk.1, hk.2.2⟩, hk.2.1⟩))) (Kd.V_reads' (Kd.V_mono (ok' := (fun k_ => ((fun k_ => (P0_ k_ ∨ w.heap.size ≤ k_) ∧ k_ ≠ gb196)) k_ ∧ oB u5 k_)) (HO209.out) (fun k_ hk => ⟨⟨hk.1, hk.2.2⟩, hk.2.1⟩))).2.1 (Kd.V_F (Kd.V_mono (ok' := (fun k_ => ((fun k_ => (P0_ k_ ∨ w.heap.size ≤ k_) ∧ k_ ≠ gb196)) k_ ∧ oB u5 k_)) (HO209.out) (fun k_ hk => ⟨⟨hk.1, hk.2.2⟩, hk.2.1⟩)))))
            (case aB => exact (kB HB))
            (case aF => exact (fun k_ hk => ⟨(.inr (Nat.le_trans (below_size (kB HB)) hk)), Kd.freshB (g := gb196) (o := .cells #[.slice (some ad197) ((rd_T42 l0 x10_1).f0).length c195_0, .slice (some ad198) ((rd_T42 l0 x10_1).f1).length c195_1] 42 (0, 0)) (kM BK196) k_ hk⟩))
            (case aO => exact (kQ HO_5))
            (case aS => exact (below_size (kB HB)))
            (case aL => have := LMc12.out; omega)
            intro v211 w20 ho hb hg hat
            rw [← Ny210.out] at ho
            have n0_ := yD (Kd.V_afterv (ok := (fun k_ => (P0_ k_ ∨ w.heap.size ≤ k_) ∧ k_ ≠ gb196)) (mV HO_8 (fun _ hk => ⟨⟨hk.1, hk.2.2⟩, hk.2.1⟩)) hg hat)
            have n1_ := yD (Kd.V_afterv (ok := (fun k_ => (P0_ k_ ∨ w.heap.size ≤ k_) ∧ k_ ≠ gb196)) (mV HL195_0 (fun _ hk => ⟨⟨hk.1, hk.2.2⟩, hk.2.1⟩)) hg hat)
            have n2_ := yD (Kd.V_afterv (ok := (fun k_ => (P0_ k_ ∨ w.heap.size ≤ k_) ∧ k_ ≠ gb196)) (mV HL195_1 (fun _ hk => ⟨⟨hk.1, hk.2.2⟩, hk.2.1⟩)) hg hat)
            have n3_ := yD (blk_grown (g := gb196) (o := .cells #[.slice (some ad197) ((rd_T42 l0 x10_1).f0).length c195_0, .slice (some ad198) ((rd_T42 l0 x10_1).f1).length c195_1] 42 (0, 0)) (kM BK196) hg (Kd.N_away HO_5.out (fun _ hk => hk.2)))
            have n4_ := yD (Kd.V_afterv (ok := (fun k_ => (P0_ k_ ∨ w.heap.size ≤ k_) ∧ k_ ≠ gb196)) (mV HO204 (fun _ hk => ⟨⟨hk.1, hk.2.2⟩, hk.2.1⟩)) hg hat)
            have n5_ := yD (Kd.V_afterv (ok := (fun k_ => (P0_ k_ ∨ w.heap.size ≤ k_) ∧ k_ ≠ gb196)) (mV HO209 (fun _ hk => ⟨⟨hk.1, hk.2.2⟩, hk.2.1⟩)) hg hat)
            have n6_ := yD (hb)
            have n7_ := yD (ho)
            clear HO_8 HL195_0 HL195_1 BK196 HO204 HO209 HB HO_5; have HO_8 := n0_; have HL195_0 := n1_; have HL195_1 := n2_; have BK196 := n3_; have HO204 := n4_; have HO209 := n5_; have HB := n6_; have HO212 := n7_; clear n0_ n1_ n2_ n3_ n4_ n5_ n6_ n7_ ho hb hg hat
            refine hK.out _ _ ⟨(yG BK196.out 0).trans rfl, (yG BK196.out 1).trans rfl⟩ (fun hHeld => ?_)
            clear hK K
            refine norm_ (a' := ?_) ?_ ?_
            rotate_left
            · show Act.put _ (some 34) _ = _
              simp only [Act.put, zH, zI, zJ, i64_w, i32_w]
              rfl
            refine qA 10 5 (bz 11 2047) HT_ ?_
            refine done_ (done_of HT_.out (by kernel_rfl)) ?_
            try go_wp2
            go_roundg k1
            case measure => have := HK1.out; omega
            case rel => exact ⟨(y210), (wrap64 (x10_1 + 1)), (by first | rfl | (simp; done) | (simp [*]; done)), H', ⟨by have := HK1.out; omega⟩, ⟨mN HO212 (fun _ hk => hk.1)⟩, ⟨mV HO_8 (fun _ hk => ⟨hk.1.1, hk.2⟩)⟩, ⟨kR1 HB⟩⟩
           · rw [if_neg c12] at H
             exact absurd H (by simp)
          · rw [if_neg c11] at H
            exact absurd H (by simp)
         · rw [if_neg c10] at H
           exact absurd H (by simp)
        ·
         replace c9 := Bool.eq_false_iff.mpr c9
         subst c9
         replace H : (impl_section.l0 k1 a1 x5_1 l0 (l0.length : Int) (wrap64 (x10_1 + 1))) = some r := (by rw [if_neg (show ¬ (false = true) by decide)] at H; exact H)
         have H' := yD H
         clear H
         have p195 : 0 ≤ (x10_1 : Int) := zP (by assumption)
         have q195 : x10_1 < (l0.length : Int) := zP (by assumption)
         obtain ⟨ad195, A195_0, c195_0, A195_1, c195_1, e195, hx195_0, hx195_1, hl195_0, hi195_0, hl195_1, hi195_1⟩ := at_T42 (Kd.V_reads' HO_8.out).2.2 x10_1 p195 q195
         cases e195
         obtain ⟨ce195, hce195, hMe195, hcc195⟩ := Kd.V_get HO_8.out z42 x10_1 p195 (by first | exact q195 | exact zP (by assumption) | (have e_ := (Kd.V_reads' HO_8.out).1; omega))
         obtain ⟨ua195_0, uc195_0, ua195_1, uc195_1, rfl, ul195_0, ge195_0, ul195_1, ge195_1⟩ := k42_openF hMe195
         have hv195_0 := hcc195 0 _ rfl
         rw [Nat.add_zero] at hv195_0
         replace hv195_0 := Option.some.inj (hv195_0.symm.trans hx195_0)
         injection hv195_0 with hva_ hvn_ hvc_
         rw [hva_] at ge195_0
         rw [hvc_] at ul195_0
         have HL195_0 := yD (show Kd.V (Kd.int .i64) 2 _ w.heap.size _ _ ((rd_T42 l0 x10_1).f0) from Kd.V_mk ul195_0 ge195_0)
         clear hva_ hvn_ hvc_ ge195_0 ul195_0
         have hv195_1 := hcc195 1 _ rfl
         rw [add_field _ _ 1 (by omega)] at hv195_1
         replace hv195_1 := Option.some.inj (hv195_1.symm.trans hx195_1)
         injection hv195_1 with hva_ hvn_ hvc_
         rw [hva_] at ge195_1
         rw [hvc_] at ul195_1
         have HL195_1 := yD (show Kd.V (Kd.int .i64) 2 _ w.heap.size _ _ ((rd_T42 l0 x10_1).f1) from Kd.V_mk ul195_1 ge195_1)
         clear hva_ hvn_ hvc_ ge195_1 ul195_1 hcc195 hce195
         have HR195_0 := yD hi195_0
         have HC195_0 := yD hl195_0
         clear hi195_0 hl195_0
         have HR195_1 := yD hi195_1
         have HC195_1 := yD hl195_1
         clear hi195_1 hl195_1; replace p195 := eq_true p195; replace q195 := eq_true q195
         try go_wp2_with (first | ((with_reducible refine gate_dst (N := 7) rfl ?_); refine box_event ?hg (N := 7) ?hd (cs := #[.slice none 0 0, .slice none 0 0]) (t := 42) ?hr ?_; (case hd => rfl); (case hg => rfl); (case hr => first | (go_simp; done) | (go_simp; rfl)); intro gb196 hg w21 hbox hb; replace HO_5 := yD (Kd.N_below (Kd.N_elderB (kQ HO_5) gb196 (Nat.le_of_eq hg.symm)) hb); replace HO_8 := yD (Kd.V_below (Kd.V_elderB (kU HO_8) gb196 (Nat.le_of_eq hg.symm)) hb); replace HL195_0 := yD (Kd.V_below (Kd.V_elderB (kU HL195_0) gb196 (Nat.le_of_eq hg.symm)) hb); replace HL195_1 := yD (Kd.V_below (Kd.V_elderB (kU HL195_1) gb196 (Nat.le_of_eq hg.symm)) hb); replace HR195_0 := yD (yY (by repeat (first | (with_reducible exact HR195_0.out) | (with_reducible first | refine yV ?_ _ | refine yW ?_ _ | refine yX ?_) | exact HR195_0.out)) hb); replace HR195_1 := yD (yY (by repeat (first | (with_reducible exact HR195_1.out) | (with_reducible first | refine yV ?_ _ | refine yW ?_ _ | refine yX ?_) | exact HR195_1.out)) hb); have BK196 := yD (hbox); have GW196 := yD ((by rw [hg]; exact (below_size (kB HB)) : w.heap.size ≤ gb196)); have GE196 := yD ((by rw [hg]; exact (below_size (kB HB)) : w.heap.size ≤ gb196)); replace HB := yD (zC (kB HB) hb); clear hb hbox hg; obtain ⟨hcz22_0, hcz22_1⟩ := cz2 BK196.out; obtain ⟨hfz22_0, hfz22_1⟩ := fz2 BK196.out))
         have n0_ : Aside0 (Kd.N k42 42 ((w21.setCell ⟨gb196, 0, none⟩ (.slice A195_0 ((rd_T42 l0 x10_1).f0).length c195_0)).setCell ⟨gb196, 1, none⟩ (.slice A195_1 ((rd_T42 l0 x10_1).f1).length c195_1)) w.heap.size (fun k_ => (P0_ k_ ∨ w.heap.size ≤ k_) ∧ k_ ≠ gb196) u5 x5_1) := ⟨by (with_reducible repeat (first | apply Kd.N_alloc | apply Kd.N_drewN | apply Kd.N_drew)); exact Kd.N_mono (Kd.N_far (p := ⟨gb196, 1, none⟩) (Kd.N_far (p := ⟨gb196, 0, none⟩) (Kd.N_mono HO_5.out (fun k_ hk => (⟨hk, hk.2⟩ : _ ∧ k_ ≠ gb196))) (fun _ hk => hk.2) (.slice A195_0 ((rd_T42 l0 x10_1).f0).length c195_0)) (fun _ hk => hk.2) (.slice A195_1 ((rd_T42 l0 x10_1).f1).length c195_1)) (fun _ hk => ⟨hk.1.1, hk.1.2⟩)⟩
         have n1_ : Aside0 (Kd.V k42 42 ((w21.setCell ⟨gb196, 0, none⟩ (.slice A195_0 ((rd_T42 l0 x10_1).f0).length c195_0)).setCell ⟨gb196, 1, none⟩ (.slice A195_1 ((rd_T42 l0 x10_1).f1).length c195_1)) w.heap.size (fun k_ => (P0_ k_ ∨ w.heap.size ≤ k_) ∧ oB u5 k_ ∧ k_ ≠ gb196) (.slice (some ad195) l0.length c0) l0) := ⟨by (with_reducible repeat (first | apply Kd.V_alloc | apply Kd.V_drewN | apply Kd.V_drew)); exact Kd.V_mono (Kd.V_far (p := ⟨gb196, 1, none⟩) (Kd.V_far (p := ⟨gb196, 0, none⟩) (Kd.V_mono HO_8.out (fun k_ hk => (⟨hk, hk.2⟩ : _ ∧ k_ ≠ gb196))) (fun _ hk => hk.2) (.slice A195_0 ((rd_T42 l0 x10_1).f0).length c195_0)) (fun _ hk => hk.2) (.slice A195_1 ((rd_T42 l0 x10_1).f1).length c195_1)) (fun _ hk => ⟨hk.1.1.1, ⟨hk.1.1.2, hk.1.2⟩⟩)⟩
         have n2_ : Aside0 (Kd.V (Kd.int .i64) 2 ((w21.setCell ⟨gb196, 0, none⟩ (.slice A195_0 ((rd_T42 l0 x10_1).f0).length c195_0)).setCell ⟨gb196, 1, none⟩ (.slice A195_1 ((rd_T42 l0 x10_1).f1).length c195_1)) w.heap.size (fun k_ => (P0_ k_ ∨ w.heap.size ≤ k_) ∧ oB u5 k_ ∧ k_ ≠ gb196) (.slice A195_0 ((rd_T42 l0 x10_1).f0).length c195_0) ((rd_T42 l0 x10_1).f0)) := ⟨by (with_reducible repeat (first | apply Kd.V_alloc | apply Kd.V_drewN | apply Kd.V_drew)); exact Kd.V_mono (Kd.V_far (p := ⟨gb196, 1, none⟩) (Kd.V_far (p := ⟨gb196, 0, none⟩) (Kd.V_mono HL195_0.out (fun k_ hk => (⟨hk, hk.2⟩ : _ ∧ k_ ≠ gb196))) (fun _ hk => hk.2) (.slice A195_0 ((rd_T42 l0 x10_1).f0).length c195_0)) (fun _ hk => hk.2) (.slice A195_1 ((rd_T42 l0 x10_1).f1).length c195_1)) (fun _ hk => ⟨hk.1.1.1, ⟨hk.1.1.2, hk.1.2⟩⟩)⟩
         have n3_ : Aside0 (Kd.V (Kd.int .i64) 2 ((w21.setCell ⟨gb196, 0, none⟩ (.slice A195_0 ((rd_T42 l0 x10_1).f0).length c195_0)).setCell ⟨gb196, 1, none⟩ (.slice A195_1 ((rd_T42 l0 x10_1).f1).length c195_1)) w.heap.size (fun k_ => (P0_ k_ ∨ w.heap.size ≤ k_) ∧ oB u5 k_ ∧ k_ ≠ gb196) (.slice A195_1 ((rd_T42 l0 x10_1).f1).length c195_1) ((rd_T42 l0 x10_1).f1)) := ⟨by (with_reducible repeat (first | apply Kd.V_alloc | apply Kd.V_drewN | apply Kd.V_drew)); exact Kd.V_mono (Kd.V_far (p := ⟨gb196, 1, none⟩) (Kd.V_far (p := ⟨gb196, 0, none⟩) (Kd.V_mono HL195_1.out (fun k_ hk => (⟨hk, hk.2⟩ : _ ∧ k_ ≠ gb196))) (fun _ hk => hk.2) (.slice A195_0 ((rd_T42 l0 x10_1).f0).length c195_0)) (fun _ hk => hk.2) (.slice A195_1 ((rd_T42 l0 x10_1).f1).length c195_1)) (fun _ hk => ⟨hk.1.1.1, ⟨hk.1.1.2, hk.1.2⟩⟩)⟩
         have n4_ : Aside0 (((w21.setCell ⟨gb196, 0, none⟩ (.slice A195_0 ((rd_T42 l0 x10_1).f0).length c195_0)).setCell ⟨gb196, 1, none⟩ (.slice A195_1 ((rd_T42 l0 x10_1).f1).length c195_1)).heap[gb196]? = some (.cells #[.slice A195_0 ((rd_T42 l0 x10_1).f0).length c195_0, .slice A195_1 ((rd_T42 l0 x10_1).f1).length c195_1] 42 (0, 0))) := ⟨by (with_reducible repeat (first | refine yM ?_ _ | refine yO ?_ | refine yN ?_ _)); refine blk_put (cs := #[.slice A195_0 ((rd_T42 l0 x10_1).f0).length c195_0, .slice none 0 0]) ?_ 1 _ rfl; (with_reducible repeat (first | refine yM ?_ _ | refine yO ?_ | refine yN ?_ _)); refine blk_put (cs := #[.slice none 0 0, .slice none 0 0]) ?_ 0 _ rfl; (with_reducible repeat (first | refine yM ?_ _ | refine yO ?_ | refine yN ?_ _)); exact BK196.out⟩
         have n5_ : Aside0 (Below w.heap.size w ((w21.setCell ⟨gb196, 0, none⟩ (.slice A195_0 ((rd_T42 l0 x10_1).f0).length c195_0)).setCell ⟨gb196, 1, none⟩ (.slice A195_1 ((rd_T42 l0 x10_1).f1).length c195_1))) := ⟨kR1 HB⟩
         (try clear HO_5); (try clear HO_8); (try clear HL195_0); (try clear HL195_1); (try clear BK196); (try clear HB)
         generalize ((w21.setCell ⟨gb196, 0, none⟩ (.slice A195_0 ((rd_T42 l0 x10_1).f0).length c195_0)).setCell ⟨gb196, 1, none⟩ (.slice A195_1 ((rd_T42 l0 x10_1).f1).length c195_1)) = w23 at n0_ n1_ n2_ n3_ n4_ n5_ ⊢
         have HO_5 := n0_; have HO_8 := n1_; have HL195_0 := n2_; have HL195_1 := n3_; have BK196 := n4_; have HB := n5_; clear n0_ n1_ n2_ n3_ n4_ n5_
         have n0_ := yD (Kd.N_drew HO_5.out)
         have n1_ := yD (Kd.V_drew HO_8.out)
         have n2_ := yD (Kd.V_drew HL195_0.out)
         have n3_ := yD (Kd.V_drew HL195_1.out)
         have n4_ := yD (yO BK196.out)
         have n5_ := yD (yP HB.out)
         clear HO_5 HO_8 HL195_0 HL195_1 BK196 HB; have HO_5 := n0_; have HO_8 := n1_; have HL195_0 := n2_; have HL195_1 := n3_; have BK196 := n4_; have HB := n5_; clear n0_ n1_ n2_ n3_ n4_ n5_
         have p197 : 0 ≤ (0 : Int) := (by omega)
         have q197 : 0 < (((rd_T42 l0 x10_1).f0).length : Int) := zP (by assumption)
         obtain ⟨ad197, e197, hx197_0⟩ := Kd.at_int ((Kd.V_reads' HL195_0.out).2.2) 0 p197 q197
         cases e197
         have qi197 : (0 < ((rd_T42 l0 x10_1).f0).length) = True := eq_true (by omega)
         (try rw [show ((0 : Int)).toNat = 0 from rfl] at hx197_0)
         (try rw [Addr.add_zero'] at hx197_0)
         replace p197 := eq_true p197; replace q197 := eq_true q197
         have p198 : 0 ≤ (0 : Int) := (by omega)
         have q198 : 0 < (((rd_T42 l0 x10_1).f1).length : Int) := zP (by assumption)
         obtain ⟨ad198, e198, hx198_0⟩ := Kd.at_int ((Kd.V_reads' HL195_1.out).2.2) 0 p198 q198
         cases e198
         have qi198 : (0 < ((rd_T42 l0 x10_1).f1).length) = True := eq_true (by omega)
         (try rw [show ((0 : Int)).toNat = 0 from rfl] at hx198_0)
         (try rw [Addr.add_zero'] at hx198_0)
         replace p198 := eq_true p198; replace q198 := eq_true q198
         refine start_ (n := 11) (S := fun w' => w'.cell? ⟨gb196, 0, none⟩ = some (.slice (some ad197) ((rd_T42 l0 x10_1).f0).length c195_0) ∧ w'.cell? ⟨gb196, 1, none⟩ = some (.slice (some ad198) ((rd_T42 l0 x10_1).f1).length c195_1) ∧ w'.cell? ad197 = some (.int .i64 (rd ((rd_T42 l0 x10_1).f0) 0)) ∧ w'.cell? ad198 = some (.int .i64 (rd ((rd_T42 l0 x10_1).f1) 0))) (ds := []) (bz 11 0) (by kernel_rfl) rfl rfl ⟨(yG BK196.out 0).trans rfl, (yG BK196.out 1).trans rfl, hx197_0, hx198_0⟩ (fun hHeld => ?_); refine with_tabW impl_section.tab5 impl_section.bits5 (fun HT_ HW_ => ?_)
         generalize w23.drew = w24 at HO_5 HO_8 HL195_0 HL195_1 BK196 HB hx197_0 hx198_0 hHeld ⊢
         refine qA 0 14 (bz 11 1) HT_ ?_
         refine qA 1 15 (bz 11 3) HT_ ?_
         refine qA 5 19 (bz 11 35) HT_ ?_
         refine qC 2 16 (bz 11 39) HT_ HW_ hHeld ?_ (hy := by rintro w' ⟨s0, s1, s2, s3⟩; go_simp; with_reducible rfl)
         refine qA 3 17 (bz 11 47) HT_ ?_
         refine qC 4 18 (bz 11 63) HT_ HW_ hHeld ?_ (hy := by rintro w' ⟨s0, s1, s2, s3⟩; go_simp; with_reducible rfl)
         refine qC 6 20 (bz 11 127) HT_ HW_ hHeld ?_ (hy := by rintro w' ⟨s0, s1, s2, s3⟩; go_simp; with_reducible rfl)
         refine qA 7 21 (bz 11 255) HT_ ?_
         refine qC 8 22 (bz 11 511) HT_ HW_ hHeld ?_ (hy := by rintro w' ⟨s0, s1, s2, s3⟩; go_simp; with_reducible rfl)
         refine qA 9 23 (bz 11 1023) HT_ ?_
         refine one_ (i := 10) (N := some 24) (bz 11 2047) rfl rfl (one_of HT_.out (by kernel_rfl)) (by decide) (fun K hK => ?_)
         refine goes_ Try.func106 (by kernel_rfl) rfl #[.int .i64 a1, .int .i64 (rd ((rd_T42 l0 x10_1).f0) 0), .int .i64 (wrap64 ((rd ((rd_T42 l0 x10_1).f1) 0) - 1))] (by rfl) rfl rfl (by (try simp only [zK, zL, zM]); first | done | rfl | (simp only [zN, zO]; rfl)) ?_
         with_reducible refine (impl_within.calls a1 (rd ((rd_T42 l0 x10_1).f0) 0) (wrap64 ((rd ((rd_T42 l0 x10_1).f1) 0) - 1)) false _ A8.out).mono ?_
         rintro e w' ⟨rfl, ⟨nd, rfl⟩⟩
         refine ⟨_, rfl, ?_⟩
         refine hK.out _ _ ⟨(yG BK196.out 0).trans rfl, (yG BK196.out 1).trans rfl, hHeld.2.2.1, hHeld.2.2.2⟩ (fun hHeld => ?_)
         clear hK K
         refine norm_ (a' := ?_) ?_ ?_
         rotate_left
         · show Act.put _ (some 24) _ = _
           simp only [Act.put, zH, zI, zJ, i64_w, i32_w]
           rfl
         refine done_ (done_of HT_.out (by kernel_rfl)) ?_
         try go_wp2
         go_roundg k1
         case measure => have := HK1.out; omega
         case rel => exact ⟨(x5_1), (wrap64 (x10_1 + 1)), (by first | rfl | (simp; done) | (simp [*]; done)), H', ⟨by have := HK1.out; omega⟩, ⟨mN HO_5 (fun _ hk => hk.1)⟩, ⟨mV HO_8 (fun _ hk => ⟨hk.1, hk.2.1⟩)⟩, ⟨kR1 HB⟩⟩
       · rw [if_neg c7] at H
         exact absurd H (by simp)
      · rw [if_neg c6] at H
        exact absurd H (by simp)
     · rw [if_neg c5] at H
       exact absurd H (by simp)
    · rw [if_neg c4] at H
      exact absurd H (by simp)
   · rw [if_neg c3] at H
     have c3b0 : decide (x10_1 < (l0.length : Int)) = false := zS c3; clear c3; obtain rfl := Option.some.inj H
     go_wp2
     go_ret
     exact ⟨_, by first | rfl | (simp <;> rfl) | (simp [*] <;> rfl), Kd.N_V (kQ HO_5), kR0 HB⟩
end Go.Proofs.Ytdiaebjbiddefaa.PFnSlabAlgebra
