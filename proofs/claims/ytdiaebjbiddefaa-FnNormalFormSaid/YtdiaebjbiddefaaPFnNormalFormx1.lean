/- Each Go function here comes to what the plain function of its name says, where that says something. Made by a program of this session, over the print. -/
import Derived.Test.YtdiaebjbiddefaaPFnNormalFormx0
namespace Go.Proofs.Ytdiaebjbiddefaa.PFnNormalForm
open Go.RowKit Go.Proofs.YtdiaebjbiddefaaW.PrintWords Go.Proofs.YtdiaebjbiddefaaW.PrintLast Go.Proofs.YtdiaebjbiddefaaW.PrintMore
attribute [local go_sem] max2_int min2_int max_two min_two max_three min_three max_four min_four   -- for this text's walks alone
set_option linter.unusedVariables false
set_option linter.unusedSimpArgs false

/-- A state of type 101 at block g of W; what its slices lead to came in by w0. -/
def IsS101 (w0 W : World) (g : Nat) (f0 : List Int) (f1 : Int) (f2 : Int) : Prop := ∃ A0 c0, W.heap[g]? = some (.cells #[.slice A0 f0.length c0, .int .i64 f1, .int .u64 f2] 101 (0, 0)) ∧ w0.heap.size ≤ g ∧ Kd.C (Kd.int .u8) w0 A0 f0.length f0
theorem IsS101.grown {w0 W : World} {g : Nat} {f0 : List Int} {f1 : Int} {f2 : Int} {W1 : World} {row : Option Nat} (h : IsS101 w0 W g f0 f1 f2) (hw : W.grownBy W1 row) (hne : some g ≠ row) : IsS101 w0 W1 g f0 f1 f2 := by
 obtain ⟨A0, c0, hb, hg, hr0⟩ := h
 exact ⟨A0, c0, blk_grown hb hw hne, hg, hr0⟩
theorem IsS101.own_neN {w0 W : World} {g : Nat} {f0 : List Int} {f1 : Int} {f2 : Int} {α : Type} {d : Kd α} {e : Nat} {base : Nat} {ok : Nat → Prop} {v : Value} {xs : List α} (h : IsS101 w0 W g f0 f1 f2) (ho : Kd.N d e W base ok v xs) (ht : e ≠ 101) : some g ≠ v.ownBlock := by
 obtain ⟨A0, c0, hb, hg, hr0⟩ := h
 exact Kd.N_ne ho hb ht
theorem IsS101.fresh {w0 W : World} {g : Nat} {f0 : List Int} {f1 : Int} {f2 : Int} (h : IsS101 w0 W g f0 f1 f2) : ∀ k, W.heap.size ≤ k → k ≠ g := by
 obtain ⟨A0, c0, hb, hg, hr0⟩ := h
 exact Kd.freshB hb
theorem IsS101.kept {w0 W : World} {g : Nat} {f0 : List Int} {f1 : Int} {f2 : Int} {W1 : World} {S : Nat → Prop} (h : IsS101 w0 W g f0 f1 f2) (hk : Kept W W1 S) (hne : ¬ S g) : IsS101 w0 W1 g f0 f1 f2 := by
 obtain ⟨A0, c0, hb, hg, hr0⟩ := h
 exact ⟨A0, c0, blk_kept hb hk hne, hg, hr0⟩
theorem IsS101.below {w0 W : World} {g : Nat} {f0 : List Int} {f1 : Int} {f2 : Int} {W1 : World} (h : IsS101 w0 W g f0 f1 f2) (hw : Below W.heap.size W W1) : IsS101 w0 W1 g f0 f1 f2 := h.grown (grown_of_below hw none) (by simp)
theorem IsS101.alloc {w0 W : World} {g : Nat} {f0 : List Int} {f1 : Int} {f2 : Int} (h : IsS101 w0 W g f0 f1 f2) (o : Obj) : IsS101 w0 (W.alloc o) g f0 f1 f2 := h.below (below_alloc (Below.refl _ _) o)
theorem IsS101.drewN {w0 W : World} {g : Nat} {f0 : List Int} {f1 : Int} {f2 : Int} (h : IsS101 w0 W g f0 f1 f2) (m : Nat) : IsS101 w0 (W.drewN m) g f0 f1 f2 := h
theorem IsS101.drew {w0 W : World} {g : Nat} {f0 : List Int} {f1 : Int} {f2 : Int} (h : IsS101 w0 W g f0 f1 f2) : IsS101 w0 W.drew g f0 f1 f2 := h
theorem IsS101.at_ {w0 W : World} {g : Nat} {f0 : List Int} {f1 : Int} {f2 : Int} {w' : World} {m : Nat} (hq : W.drewN m = w') (h : IsS101 w0 W g f0 f1 f2) : IsS101 w0 w' g f0 f1 f2 := by subst hq; exact IsS101.drewN h m
theorem IsS101.apart {w0 W : World} {g : Nat} {f0 : List Int} {f1 : Int} {f2 : Int} {α : Type} {d : Kd α} {e : Nat} {base : Nat} {ok : Nat → Prop} {v : Value} {xs : List α} (h : IsS101 w0 W g f0 f1 f2) (ho : d.R e W base ok v xs) (ht : ∀ q, q ∈ e :: d.E → q ≠ 101) : d.R e W base (fun k => ok k ∧ k ≠ g) v xs := by
 obtain ⟨A0, c0, hb, hg, hr0⟩ := h
 exact Kd.R_types ho hb ht
theorem IsS101.own_ne {w0 W : World} {g : Nat} {f0 : List Int} {f1 : Int} {f2 : Int} {α : Type} {d : Kd α} {e : Nat} {base : Nat} {ok : Nat → Prop} {v : Value} {xs : List α} (h : IsS101 w0 W g f0 f1 f2) (ho : d.R e W base ok v xs) (ht : e ≠ 101) : some g ≠ v.ownBlock := by
 obtain ⟨A0, c0, hb, hg, hr0⟩ := h
 exact Kd.R_ne ho hb ht
theorem IsS101.apartQ {w0 W : World} {g : Nat} {f0 : List Int} {f1 : Int} {f2 : Int} {α : Type} {d : Kd α} {e : Nat} {base : Nat} {ok : Nat → Prop} {v : Value} {xs : List α} (h : IsS101 w0 W g f0 f1 f2) (ho : d.Q e W base ok v xs) (ht : ∀ q, q ∈ e :: d.E → q ≠ 101) : d.Q e W base (fun k => ok k ∧ k ≠ g) v xs := by
 obtain ⟨A0, c0, hb, hg, hr0⟩ := h
 exact Kd.Q_types ho hb ht
theorem IsS101.own_neQ {w0 W : World} {g : Nat} {f0 : List Int} {f1 : Int} {f2 : Int} {α : Type} {d : Kd α} {e : Nat} {base : Nat} {ok : Nat → Prop} {v : Value} {xs : List α} (h : IsS101 w0 W g f0 f1 f2) (ho : d.Q e W base ok v xs) (ht : e ≠ 101) : some g ≠ v.ownBlock := by
 obtain ⟨A0, c0, hb, hg, hr0⟩ := h
 exact Kd.Q_ne ho hb ht
theorem IsS101.apartS {w0 W : World} {g : Nat} {f0 : List Int} {f1 : Int} {f2 : Int} {α : Type} {d : Kd α} {e : Nat} {base : Nat} {ok : Nat → Prop} {v : Value} {xs : List α} (h : IsS101 w0 W g f0 f1 f2) (ho : d.S e W base ok v xs) (ht : ∀ q, q ∈ e :: d.E → q ≠ 101) : d.S e W base (fun k => ok k ∧ k ≠ g) v xs := by
 obtain ⟨A0, c0, hb, hg, hr0⟩ := h
 exact Kd.S_types ho hb ht
theorem IsS101.own_neS {w0 W : World} {g : Nat} {f0 : List Int} {f1 : Int} {f2 : Int} {α : Type} {d : Kd α} {e : Nat} {base : Nat} {ok : Nat → Prop} {v : Value} {xs : List α} (h : IsS101 w0 W g f0 f1 f2) (ho : d.S e W base ok v xs) (ht : e ≠ 101) : some g ≠ v.ownBlock := by
 obtain ⟨A0, c0, hb, hg, hr0⟩ := h
 exact Kd.S_ne ho hb ht
theorem IsS101.lt {w0 W : World} {g : Nat} {f0 : List Int} {f1 : Int} {f2 : Int} (h : IsS101 w0 W g f0 f1 f2) : g < W.heap.size := by
 obtain ⟨A0, c0, hb, hg, hr0⟩ := h
 exact blk_lt hb
theorem IsS101.ge {w0 W : World} {g : Nat} {f0 : List Int} {f1 : Int} {f2 : Int} (h : IsS101 w0 W g f0 f1 f2) : w0.heap.size ≤ g := by
 obtain ⟨A0, c0, hb, hg, hr0⟩ := h
 exact hg
theorem IsS101.ne_blk {w0 W : World} {g : Nat} {f0 : List Int} {f1 : Int} {f2 : Int} {a : Nat} {cs : Array Value} {t : TypeId} {fr : Nat × Nat} (h : IsS101 w0 W g f0 f1 f2) (hb2 : W.heap[a]? = some (.cells cs t fr)) (ht : t ≠ 101) : g ≠ a := by
 obtain ⟨A0, c0, hb, hg, hr0⟩ := h
 rintro rfl
 rw [hb] at hb2
 injection hb2 with hb2
 injection hb2 with _ ht2
 exact ht ht2.symm
theorem IsS101.far {w0 W : World} {g : Nat} {f0 : List Int} {f1 : Int} {f2 : Int} {p : Addr} (h : IsS101 w0 W g f0 f1 f2) (hne : g ≠ p.block) (u : Value) : IsS101 w0 (W.setCell p u) g f0 f1 f2 := by
 obtain ⟨A0, c0, hb, hg, hr0⟩ := h
 exact ⟨A0, c0, blk_far hb hne u, hg, hr0⟩
theorem cellS101_0 {W : World} {g : Nat} {A0 : Option Addr} {c0 : Nat} {f0 : List Int} {f1 : Int} {f2 : Int} (h : W.heap[g]? = some (.cells #[.slice A0 f0.length c0, .int .i64 f1, .int .u64 f2] 101 (0, 0))) : W.cell? ⟨g, 0, none⟩ = some (.slice A0 f0.length c0) := (blk_cell h 0).trans rfl
theorem cellS101_1 {W : World} {g : Nat} {A0 : Option Addr} {c0 : Nat} {f0 : List Int} {f1 : Int} {f2 : Int} (h : W.heap[g]? = some (.cells #[.slice A0 f0.length c0, .int .i64 f1, .int .u64 f2] 101 (0, 0))) : W.cell? ⟨g, 1, none⟩ = some (.int .i64 f1) := (blk_cell h 1).trans rfl
theorem IsS101.set_1 {w0 W : World} {g : Nat} {f0 : List Int} {f1 : Int} {f2 : Int} (h : IsS101 w0 W g f0 f1 f2) (x : Int) : IsS101 w0 (W.setCell ⟨g, 1, none⟩ (.int .i64 x)) g f0 x f2 := by
 obtain ⟨A0, c0, hb, hg, hr0⟩ := h
 exact ⟨A0, c0, by simpa using blk_set hb 1 (.int .i64 x), hg, hr0⟩
theorem cellS101_2 {W : World} {g : Nat} {A0 : Option Addr} {c0 : Nat} {f0 : List Int} {f1 : Int} {f2 : Int} (h : W.heap[g]? = some (.cells #[.slice A0 f0.length c0, .int .i64 f1, .int .u64 f2] 101 (0, 0))) : W.cell? ⟨g, 2, none⟩ = some (.int .u64 f2) := (blk_cell h 2).trans rfl
theorem IsS101.set_2 {w0 W : World} {g : Nat} {f0 : List Int} {f1 : Int} {f2 : Int} (h : IsS101 w0 W g f0 f1 f2) (x : Int) : IsS101 w0 (W.setCell ⟨g, 2, none⟩ (.int .u64 x)) g f0 f1 x := by
 obtain ⟨A0, c0, hb, hg, hr0⟩ := h
 exact ⟨A0, c0, by simpa using blk_set hb 2 (.int .u64 x), hg, hr0⟩
theorem IsS101.new (w0 W : World) (A0 : Option Addr) (c0 : Nat) (f0 : List Int) (f1 : Int) (f2 : Int) (hB : Below w0.heap.size w0 W) (hr0 : Kd.C (Kd.int .u8) w0 A0 f0.length f0) : IsS101 w0 (W.alloc (.cells #[.slice A0 f0.length c0, .int .i64 f1, .int .u64 f2] 101)) W.heap.size f0 f1 f2 := ⟨A0, c0, by simpa using heap_alloc_new W _, hB.size, hr0⟩

/-! ### spec_l00From: function 60 -/
def spec_l00From.f (l0 : List Int) : Option (List Int × Int × Int) := some (l0, 0, 0)
set_option maxHeartbeats 8000000 in
set_option maxRecDepth 100000 in
theorem spec_l00From.calls (A0 : Option Addr) (c0 : Nat) (l0 : List Int) (r1 : List Int) (r2 : Int) (r3 : Int) (w0 w : World) (hB : Below w0.heap.size w0 w) (hr0 : Kd.C (Kd.int .u8) w0 A0 l0.length l0) (hc0 : l0.length ≤ c0) (h : spec_l00From.f l0 = some (r1, r2, r3)) :
 Calls Try.prog 60 #[.slice A0 l0.length c0] w fun e w' => ∃ g_ : Nat, e = .returned (.pointer (some ⟨g_, 0, none⟩)) ∧ IsS101 w0 w' g_ r1 r2 r3 ∧ Below w0.heap.size w0 w' ∧ Below w.heap.size w w' := by
 have hu101 := Try.underlying101
 have HR0 := yD hr0
 have HC0 := yD hc0
 clear hr0 hc0
 have HBW := yD (Below.refl w.heap.size w)
 have HW0 := yD hB.size
 have HB := yD hB
 clear hB
 have H : (some (l0, 0, 0)) = some (r1, r2, r3) := h
 clear h
 simp only [Option.some.injEq, Prod.mk.injEq] at H
 obtain ⟨rfl, rfl, rfl⟩ := H
 go_enter Try.func60, Try.ntmps60
 go_wp2_with (first | ((with_reducible refine gate_dst (N := 5) rfl ?_); refine box_event ?hg (N := 5) ?hd (cs := #[.slice A0 l0.length c0, .int .i64 0, .int .u64 0]) (t := 101) ?hr ?_; (case hd => rfl); (case hg => rfl); (case hr => first | (go_simp; done) | (go_simp; rfl)); intro gb101 hg w2 hbox hb; have n0_ := yD (zC HBW.out hb); have n1_ := yD (zC (kB HB) hb); have n2_ := yD (hbox); have n3_ := yD ((by rw [hg]; exact (below_size (kR0 HBW)) : w.heap.size ≤ gb101)); have n4_ := yD ((Nat.le_trans HW0.out (by rw [hg]; exact (below_size (kR0 HBW)) : w.heap.size ≤ gb101) : w0.heap.size ≤ gb101)); clear HBW; clear HB; have HBW := n0_; have HB := n1_; have BK101 := n2_; have GW101 := n3_; have GE101 := n4_; clear n0_ n1_ n2_ n3_ n4_; clear hb hbox hg))
 go_ret
 exact ⟨_, rfl, (show IsS101 w0 _ gb101 l0 0 0 from ⟨_, _, by (with_reducible repeat (first | refine yM ?_ _ | refine yO ?_ | refine yN ?_ _)); exact BK101.out, GE101.out, HR0.out⟩), kR1 HB, kR1 HBW⟩

/-! ### spec_l00Src_next: function 132 -/
def spec_l00Src_next.f (s0_0 : List Int) (s0_1 : Int) (s0_2 : Int) : Option (Int × Int × Int) := if s0_1 < (s0_0.length : Int) then (if 0 ≤ s0_1 then (if (wrap64 (s0_1 + 1)) ≤ (s0_0.length : Int) then (some (wrap64 (rd s0_0 s0_1), wrap64 (s0_1 + 1), IntKind.u64.wrap ((IntKind.u64.wrap ((IntKind.u64.wrap (s0_2 * 6364136223846793005)) + (IntKind.u64.wrap (wrap64 (rd s0_0 s0_1))))) + 1442695040888963407))) else (some (wrap64 (Go.bits .and .u64 ((IntKind.u64.wrap ((IntKind.u64.wrap ((IntKind.u64.wrap (s0_2 * 6364136223846793005)) + (IntKind.u64.wrap (wrap64 (rd s0_0 s0_1))))) + 1442695040888963407)) / 1099511627776) 255), wrap64 (s0_1 + 1), IntKind.u64.wrap ((IntKind.u64.wrap ((IntKind.u64.wrap (s0_2 * 6364136223846793005)) + (IntKind.u64.wrap (wrap64 (rd s0_0 s0_1))))) + 1442695040888963407)))) else (none)) else (if (wrap64 (s0_1 + 1)) ≤ (s0_0.length : Int) then (some (0, wrap64 (s0_1 + 1), IntKind.u64.wrap ((IntKind.u64.wrap (IntKind.u64.wrap (s0_2 * 6364136223846793005))) + 1442695040888963407))) else (some (wrap64 (Go.bits .and .u64 ((IntKind.u64.wrap ((IntKind.u64.wrap (IntKind.u64.wrap (s0_2 * 6364136223846793005))) + 1442695040888963407)) / 1099511627776) 255), wrap64 (s0_1 + 1), IntKind.u64.wrap ((IntKind.u64.wrap (IntKind.u64.wrap (s0_2 * 6364136223846793005))) + 1442695040888963407))))
set_option maxHeartbeats 8000000 in
set_option maxRecDepth 100000 in
theorem spec_l00Src_next.calls (g : Nat) (s0_0 : List Int) (s0_1 : Int) (s0_2 : Int) (r1 : Int) (r2 : Int) (r3 : Int) (w0 w : World) (hI : IsS101 w0 w g s0_0 s0_1 s0_2) (hB : Below w0.heap.size w0 w) (h : spec_l00Src_next.f s0_0 s0_1 s0_2 = some (r1, r2, r3)) :
 Calls Try.prog 132 #[.pointer (some ⟨g, 0, none⟩)] w fun e w' => e = .returned (.int .i64 r1) ∧ IsS101 w0 w' g s0_0 r2 r3 ∧ Below w0.heap.size w0 w' ∧ KeepBut w w' g none := by
 have HI0 := yD hI
 have HK := yD (KeepBut.refl w g none)
 have HL := yD hB.size
 clear hI
 have HW0 := yD hB.size
 have HB := yD hB
 clear hB
 have H : (if s0_1 < (s0_0.length : Int) then (if 0 ≤ s0_1 then (if (wrap64 (s0_1 + 1)) ≤ (s0_0.length : Int) then (some (wrap64 (rd s0_0 s0_1), wrap64 (s0_1 + 1), IntKind.u64.wrap ((IntKind.u64.wrap ((IntKind.u64.wrap (s0_2 * 6364136223846793005)) + (IntKind.u64.wrap (wrap64 (rd s0_0 s0_1))))) + 1442695040888963407))) else (some (wrap64 (Go.bits .and .u64 ((IntKind.u64.wrap ((IntKind.u64.wrap ((IntKind.u64.wrap (s0_2 * 6364136223846793005)) + (IntKind.u64.wrap (wrap64 (rd s0_0 s0_1))))) + 1442695040888963407)) / 1099511627776) 255), wrap64 (s0_1 + 1), IntKind.u64.wrap ((IntKind.u64.wrap ((IntKind.u64.wrap (s0_2 * 6364136223846793005)) + (IntKind.u64.wrap (wrap64 (rd s0_0 s0_1))))) + 1442695040888963407)))) else (none)) else (if (wrap64 (s0_1 + 1)) ≤ (s0_0.length : Int) then (some (0, wrap64 (s0_1 + 1), IntKind.u64.wrap ((IntKind.u64.wrap (IntKind.u64.wrap (s0_2 * 6364136223846793005))) + 1442695040888963407))) else (some (wrap64 (Go.bits .and .u64 ((IntKind.u64.wrap ((IntKind.u64.wrap (IntKind.u64.wrap (s0_2 * 6364136223846793005))) + 1442695040888963407)) / 1099511627776) 255), wrap64 (s0_1 + 1), IntKind.u64.wrap ((IntKind.u64.wrap (IntKind.u64.wrap (s0_2 * 6364136223846793005))) + 1442695040888963407))))) = some (r1, r2, r3) := h
 clear h
 by_cases c2 : s0_1 < (s0_0.length : Int)
 ·
  rw [if_pos c2] at H
  have c2b0 : decide (s0_1 < (s0_0.length : Int)) = true := zR c2; clear c2
  by_cases c3 : 0 ≤ s0_1
  ·
   rw [if_pos c3] at H
   have c3b0 : decide (0 ≤ s0_1) = true := zR c3; clear c3
   by_cases c4 : (wrap64 (s0_1 + 1)) ≤ (s0_0.length : Int)
   ·
    rw [if_pos c4] at H
    have c4b0 : decide ((wrap64 (s0_1 + 1)) ≤ (s0_0.length : Int)) = true := zR c4; clear c4
    simp only [Option.some.injEq, Prod.mk.injEq] at H
    obtain ⟨rfl, rfl, rfl⟩ := H
    obtain ⟨ASz5_0, cSz5_0, HGz5, hgz5, HSz5_0⟩ := HI0.out
    have hcz5_0 := cellS101_0 HGz5
    have hcz5_1 := cellS101_1 HGz5
    have hcz5_2 := cellS101_2 HGz5
    have hfz5_1 := yR HGz5 1
    have hfz5_2 := yR HGz5 2
    clear HGz5 hgz5
    have p102 : 0 ≤ (s0_1 : Int) := zP (by assumption)
    have q102 : s0_1 < (s0_0.length : Int) := zP (by assumption)
    obtain ⟨ad102, e102, hx102_0⟩ := Kd.at_int HSz5_0 s0_1 p102 q102
    cases e102
    replace hx102_0 := pw_cell_below HB.out hx102_0
    replace p102 := eq_true p102; replace q102 := eq_true q102; go_enter Try.func132, Try.ntmps132
    go_wp2
    repeat (go_quiet (fail); try go_wp2)
    go_ret
    exact ⟨by first | rfl | (simp <;> rfl) | (simp [*] <;> rfl), kR2 HI0, kR3 HB, kR4 HK⟩
   ·
    rw [if_neg c4] at H
    have c4b0 : decide ((wrap64 (s0_1 + 1)) ≤ (s0_0.length : Int)) = false := zS c4; clear c4
    simp only [Option.some.injEq, Prod.mk.injEq] at H
    obtain ⟨rfl, rfl, rfl⟩ := H
    obtain ⟨ASz6_0, cSz6_0, HGz6, hgz6, HSz6_0⟩ := HI0.out
    have hcz6_0 := cellS101_0 HGz6
    have hcz6_1 := cellS101_1 HGz6
    have hcz6_2 := cellS101_2 HGz6
    have hfz6_1 := yR HGz6 1
    have hfz6_2 := yR HGz6 2
    clear HGz6 hgz6
    have p102 : 0 ≤ (s0_1 : Int) := zP (by assumption)
    have q102 : s0_1 < (s0_0.length : Int) := zP (by assumption)
    obtain ⟨ad102, e102, hx102_0⟩ := Kd.at_int HSz6_0 s0_1 p102 q102
    cases e102
    replace hx102_0 := pw_cell_below HB.out hx102_0
    replace p102 := eq_true p102; replace q102 := eq_true q102; go_enter Try.func132, Try.ntmps132
    go_wp2
    repeat (go_quiet (fail); try go_wp2)
    go_ret
    exact ⟨by first | rfl | (simp <;> rfl) | (simp [*] <;> rfl), kR2 HI0, kR3 HB, kR4 HK⟩
  · rw [if_neg c3] at H
    exact absurd H (by simp)
 ·
  rw [if_neg c2] at H
  have c2b0 : decide (s0_1 < (s0_0.length : Int)) = false := zS c2; clear c2
  by_cases c7 : (wrap64 (s0_1 + 1)) ≤ (s0_0.length : Int)
  ·
   rw [if_pos c7] at H
   have c7b0 : decide ((wrap64 (s0_1 + 1)) ≤ (s0_0.length : Int)) = true := zR c7; clear c7
   simp only [Option.some.injEq, Prod.mk.injEq] at H
   obtain ⟨rfl, rfl, rfl⟩ := H
   obtain ⟨ASz8_0, cSz8_0, HGz8, hgz8, HSz8_0⟩ := HI0.out
   have hcz8_0 := cellS101_0 HGz8
   have hcz8_1 := cellS101_1 HGz8
   have hcz8_2 := cellS101_2 HGz8
   have hfz8_1 := yR HGz8 1
   have hfz8_2 := yR HGz8 2
   clear HGz8 hgz8; go_enter Try.func132, Try.ntmps132
   go_wp2
   repeat (go_quiet (fail); try go_wp2)
   go_ret
   exact ⟨by first | rfl | (simp <;> rfl) | (simp [*] <;> rfl), kR2 HI0, kR3 HB, kR4 HK⟩
  ·
   rw [if_neg c7] at H
   have c7b0 : decide ((wrap64 (s0_1 + 1)) ≤ (s0_0.length : Int)) = false := zS c7; clear c7
   simp only [Option.some.injEq, Prod.mk.injEq] at H
   obtain ⟨rfl, rfl, rfl⟩ := H
   obtain ⟨ASz9_0, cSz9_0, HGz9, hgz9, HSz9_0⟩ := HI0.out
   have hcz9_0 := cellS101_0 HGz9
   have hcz9_1 := cellS101_1 HGz9
   have hcz9_2 := cellS101_2 HGz9
   have hfz9_1 := yR HGz9 1
   have hfz9_2 := yR HGz9 2
   clear HGz9 hgz9; go_enter Try.func132, Try.ntmps132
   go_wp2
   repeat (go_quiet (fail); try go_wp2)
   go_ret
   exact ⟨by first | rfl | (simp <;> rfl) | (simp [*] <;> rfl), kR2 HI0, kR3 HB, kR4 HK⟩

/-! ### spec_l00Src_pick: function 101 -/
def spec_l00Src_pick.f (s0_0 : List Int) (s0_1 : Int) (s0_2 : Int) (a1 : Int) : Option (Int × Int × Int) := if a1 ≤ 1 then (some (0, s0_1, s0_2)) else ((spec_l00Src_next.f s0_0 s0_1 s0_2).bind fun bt103 => (if a1 > 200 then ((spec_l00Src_next.f s0_0 bt103.2.1 bt103.2.2).bind fun bt106 => (if a1 = 0 then (none) else (some (Int.tmod (wrap64 ((wrap64 (bt103.1 * 256)) + bt106.1)) a1, bt106.2.1, bt106.2.2)))) else (if a1 = 0 then (none) else (some (Int.tmod bt103.1 a1, bt103.2.1, bt103.2.2)))))
set_option maxHeartbeats 8000000 in
set_option maxRecDepth 100000 in
theorem spec_l00Src_pick.calls (g : Nat) (s0_0 : List Int) (s0_1 : Int) (s0_2 : Int) (a1 : Int) (r1 : Int) (r2 : Int) (r3 : Int) (w0 w : World) (hI : IsS101 w0 w g s0_0 s0_1 s0_2) (hB : Below w0.heap.size w0 w) (h : spec_l00Src_pick.f s0_0 s0_1 s0_2 a1 = some (r1, r2, r3)) :
 Calls Try.prog 101 #[.pointer (some ⟨g, 0, none⟩), .int .i64 a1] w fun e w' => e = .returned (.int .i64 r1) ∧ IsS101 w0 w' g s0_0 r2 r3 ∧ Below w0.heap.size w0 w' ∧ KeepBut w w' g none := by
 have HI0 := yD hI
 have HK := yD (KeepBut.refl w g none)
 have HL := yD hB.size
 clear hI
 have HW0 := yD hB.size
 have HB := yD hB
 clear hB
 have H : (if a1 ≤ 1 then (some (0, s0_1, s0_2)) else ((spec_l00Src_next.f s0_0 s0_1 s0_2).bind fun bt103 => (if a1 > 200 then ((spec_l00Src_next.f s0_0 bt103.2.1 bt103.2.2).bind fun bt106 => (if a1 = 0 then (none) else (some (Int.tmod (wrap64 ((wrap64 (bt103.1 * 256)) + bt106.1)) a1, bt106.2.1, bt106.2.2)))) else (if a1 = 0 then (none) else (some (Int.tmod bt103.1 a1, bt103.2.1, bt103.2.2)))))) = some (r1, r2, r3) := h
 clear h
 by_cases c3 : a1 ≤ 1
 ·
  rw [if_pos c3] at H
  have c3b0 : decide (a1 ≤ 1) = true := zR c3; clear c3
  simp only [Option.some.injEq, Prod.mk.injEq] at H
  obtain ⟨rfl, rfl, rfl⟩ := H
  go_enter Try.func101, Try.ntmps101
  go_wp2
  go_ret
  exact ⟨by first | rfl | (simp <;> rfl) | (simp [*] <;> rfl), kR2 HI0, kR3 HB, kR4 HK⟩
 ·
  rw [if_neg c3] at H
  have c3b0 : decide (a1 ≤ 1) = false := zS c3; clear c3
  obtain ⟨⟨t103, t104, t105⟩, A40, H⟩ := zW_ H
  replace H : (if a1 > 200 then ((spec_l00Src_next.f s0_0 t104 t105).bind fun bt106 => (if a1 = 0 then (none) else (some (Int.tmod (wrap64 ((wrap64 (t103 * 256)) + bt106.1)) a1, bt106.2.1, bt106.2.2)))) else (if a1 = 0 then (none) else (some (Int.tmod t103 a1, t104, t105)))) = some (r1, r2, r3) := H
  have A4 := yD A40
  clear A40
  by_cases c5 : a1 > 200
  ·
   rw [if_pos c5] at H
   have c5b0 : decide (200 < a1) = true := zR c5; clear c5
   obtain ⟨⟨t106, t107, t108⟩, A60, H⟩ := zW_ H
   replace H : (if a1 = 0 then (none) else (some (Int.tmod (wrap64 ((wrap64 (t103 * 256)) + t106)) a1, t107, t108))) = some (r1, r2, r3) := H
   have A6 := yD A60
   clear A60
   by_cases c7 : a1 = 0
   · rw [if_pos c7] at H
     exact absurd H (by simp)
   ·
    rw [if_neg c7] at H
    have c7b0 : (a1 == 0) = false := beq_eq_false_iff_ne.mpr c7
    have c7b1 : (a1 != 0) = true := bne_iff_ne.mpr c7
    simp only [Option.some.injEq, Prod.mk.injEq] at H
    obtain ⟨rfl, rfl, rfl⟩ := H
    go_enter Try.func101, Try.ntmps101
    go_wp2_with (first | ((with_reducible refine gate_callee (f := 132) rfl ?_); refine goesL_ (some 9) rfl rfl Try.func132 (by kernel_rfl) rfl #[.pointer (some ⟨g, 0, none⟩)] rfl (by (try simp only [zK, zL, zM]); first | done | rfl | (simp only [zN, zO]; rfl)) ?_; (with_reducible refine (spec_l00Src_next.calls g s0_0 s0_1 s0_2 t103 t104 t105 w0 _ ?side1 ?side2 A4.out).mono ?_); (case side1 => exact kR2 HI0); (case side2 => exact kR3 HB); rintro e w8 ⟨rfl, hi, hb, hk⟩; refine ⟨_, rfl, ?_⟩; have n0_ := yD (KeepBut.trans (kR4 HK) hk (.inl rfl)); have n1_ := yD (hb); have n2_ := yD (hi); clear HK; clear HB; clear HI0; have HK := n0_; have HB := n1_; have HI0 := n2_; clear n0_ n1_ n2_; (try clear hb); (try clear hb2); (try clear hk); (try clear hi)) | ((with_reducible refine gate_callee (f := 132) rfl ?_); refine goesL_ (some 15) rfl rfl Try.func132 (by kernel_rfl) rfl #[.pointer (some ⟨g, 0, none⟩)] rfl (by (try simp only [zK, zL, zM]); first | done | rfl | (simp only [zN, zO]; rfl)) ?_; (with_reducible refine (spec_l00Src_next.calls g s0_0 t104 t105 t106 t107 t108 w0 _ ?side1 ?side2 A6.out).mono ?_); (case side1 => exact kR2 HI0); (case side2 => exact kR3 HB); rintro e w9 ⟨rfl, hi, hb, hk⟩; refine ⟨_, rfl, ?_⟩; have n0_ := yD (KeepBut.trans (kR4 HK) hk (.inl rfl)); have n1_ := yD (hb); have n2_ := yD (hi); clear HK; clear HB; clear HI0; have HK := n0_; have HB := n1_; have HI0 := n2_; clear n0_ n1_ n2_; (try clear hb); (try clear hb2); (try clear hk); (try clear hi)))
    go_ret
    exact ⟨by first | rfl | (simp <;> rfl) | (simp [*] <;> rfl), kR2 HI0, kR3 HB, kR4 HK⟩
  ·
   rw [if_neg c5] at H
   have c5b0 : decide (200 < a1) = false := zS c5; clear c5
   by_cases c10 : a1 = 0
   · rw [if_pos c10] at H
     exact absurd H (by simp)
   ·
    rw [if_neg c10] at H
    have c10b0 : (a1 == 0) = false := beq_eq_false_iff_ne.mpr c10
    have c10b1 : (a1 != 0) = true := bne_iff_ne.mpr c10
    simp only [Option.some.injEq, Prod.mk.injEq] at H
    obtain ⟨rfl, rfl, rfl⟩ := H
    go_enter Try.func101, Try.ntmps101
    go_wp2_with (first | ((with_reducible refine gate_callee (f := 132) rfl ?_); refine goesL_ (some 9) rfl rfl Try.func132 (by kernel_rfl) rfl #[.pointer (some ⟨g, 0, none⟩)] rfl (by (try simp only [zK, zL, zM]); first | done | rfl | (simp only [zN, zO]; rfl)) ?_; (with_reducible refine (spec_l00Src_next.calls g s0_0 s0_1 s0_2 t103 t104 t105 w0 _ ?side1 ?side2 A4.out).mono ?_); (case side1 => exact kR2 HI0); (case side2 => exact kR3 HB); rintro e w11 ⟨rfl, hi, hb, hk⟩; refine ⟨_, rfl, ?_⟩; have n0_ := yD (KeepBut.trans (kR4 HK) hk (.inl rfl)); have n1_ := yD (hb); have n2_ := yD (hi); clear HK; clear HB; clear HI0; have HK := n0_; have HB := n1_; have HI0 := n2_; clear n0_ n1_ n2_; (try clear hb); (try clear hb2); (try clear hk); (try clear hi)))
    go_ret
    exact ⟨by first | rfl | (simp <;> rfl) | (simp [*] <;> rfl), kR2 HI0, kR3 HB, kR4 HK⟩

/-! ### spec_l00Src_among: function 100 -/
def spec_l00Src_among.f (s0_0 : List Int) (s0_1 : Int) (s0_2 : Int) (l1 : List Int) : Option (Int × Int × Int) := (spec_l00Src_pick.f s0_0 s0_1 s0_2 (l1.length : Int)).bind fun bt109 => (if 0 ≤ bt109.1 then (if bt109.1 < (l1.length : Int) then (some (rd l1 bt109.1, bt109.2.1, bt109.2.2)) else (none)) else (none))
set_option maxHeartbeats 8000000 in
set_option maxRecDepth 100000 in
theorem spec_l00Src_among.calls (g : Nat) (s0_0 : List Int) (s0_1 : Int) (s0_2 : Int) (A1 : Option Addr) (c1 : Nat) (l1 : List Int) (r1 : Int) (r2 : Int) (r3 : Int) (w0 w : World) (hI : IsS101 w0 w g s0_0 s0_1 s0_2) (hB : Below w0.heap.size w0 w) (hr1 : Kd.C (Kd.int .i64) w A1 l1.length l1) (hc1 : l1.length ≤ c1) (hf1 : ∀ ad, A1 = some ad → 0 < l1.length → ad.block ≠ g) (h : spec_l00Src_among.f s0_0 s0_1 s0_2 l1 = some (r1, r2, r3)) :
 Calls Try.prog 100 #[.pointer (some ⟨g, 0, none⟩), .slice A1 l1.length c1] w fun e w' => e = .returned (.int .i64 r1) ∧ IsS101 w0 w' g s0_0 r2 r3 ∧ Below w0.heap.size w0 w' ∧ KeepBut w w' g none := by
 have HR1 := yD hr1
 have HC1 := yD hc1
 clear hr1 hc1
 have HI0 := yD hI
 have HK := yD (KeepBut.refl w g none)
 have HL := yD hB.size
 clear hI
 have HW0 := yD hB.size
 have HB := yD hB
 clear hB
 have H : ((spec_l00Src_pick.f s0_0 s0_1 s0_2 (l1.length : Int)).bind fun bt109 => (if 0 ≤ bt109.1 then (if bt109.1 < (l1.length : Int) then (some (rd l1 bt109.1, bt109.2.1, bt109.2.2)) else (none)) else (none))) = some (r1, r2, r3) := h
 clear h
 obtain ⟨⟨t109, t110, t111⟩, A30, H⟩ := zW_ H
 replace H : (if 0 ≤ t109 then (if t109 < (l1.length : Int) then (some (rd l1 t109, t110, t111)) else (none)) else (none)) = some (r1, r2, r3) := H
 have A3 := yD A30
 clear A30
 by_cases c4 : 0 ≤ t109
 ·
  rw [if_pos c4] at H
  have c4b0 : decide (0 ≤ t109) = true := zR c4; clear c4
  by_cases c5 : t109 < (l1.length : Int)
  ·
   rw [if_pos c5] at H
   have c5b0 : decide (t109 < (l1.length : Int)) = true := zR c5; clear c5
   simp only [Option.some.injEq, Prod.mk.injEq] at H
   obtain ⟨rfl, rfl, rfl⟩ := H
   go_enter Try.func100, Try.ntmps100
   go_wp2_with (first | ((with_reducible refine gate_callee (f := 101) rfl ?_); refine goesL_ (some 9) rfl rfl Try.func101 (by kernel_rfl) rfl #[.pointer (some ⟨g, 0, none⟩), .int .i64 (l1.length : Int)] rfl (by (try simp only [zK, zL, zM]); first | done | rfl | (simp only [zN, zO]; rfl)) ?_; (with_reducible refine (spec_l00Src_pick.calls g s0_0 s0_1 s0_2 (l1.length : Int) t109 t110 t111 w0 _ ?side1 ?side2 A3.out).mono ?_); (case side1 => exact kR2 HI0); (case side2 => exact kR3 HB); rintro e w6 ⟨rfl, hi, hb, hk⟩; refine ⟨_, rfl, ?_⟩; have n0_ := yD (KeepBut.trans (kR4 HK) hk (.inl rfl)); have n1_ := yD (hb); have n2_ := yD (hi); clear HK; clear HB; clear HI0; have HK := n0_; have HB := n1_; have HI0 := n2_; clear n0_ n1_ n2_; (try clear hb); (try clear hb2); (try clear hk); (try clear hi); have p112 : 0 ≤ (t109 : Int) := zP (by assumption); have q112 : t109 < (l1.length : Int) := zP (by assumption); obtain ⟨ad112, e112, hx112_0⟩ := Kd.at_int HR1.out t109 p112 q112; cases e112; replace hx112_0 := keep_cell HK.out hx112_0 (by first | (rw [add_block]; exact hf1 _ rfl (by omega)) | exact hf1 _ rfl (by omega) | exact hf1 ad112 rfl (by omega)); replace p112 := eq_true p112; replace q112 := eq_true q112))
   go_ret
   exact ⟨by first | rfl | (simp <;> rfl) | (simp [*] <;> rfl), kR2 HI0, kR3 HB, kR4 HK⟩
  · rw [if_neg c5] at H
    exact absurd H (by simp)
 · rw [if_neg c4] at H
   exact absurd H (by simp)

/-! ### spec_l07DrawRank: function 61 -/
def spec_l07DrawRank.f (s0_0 : List Int) (s0_1 : Int) (s0_2 : Int) : Option (Int × Int × Int) := (spec_l00Src_among.f s0_0 s0_1 s0_2 (([1, 2, 2, 2, 3, 3, 0] : List Int))).bind fun bt116 => (some (bt116.1, bt116.2.1, bt116.2.2))
set_option maxHeartbeats 8000000 in
set_option maxRecDepth 100000 in
theorem spec_l07DrawRank.calls (g : Nat) (s0_0 : List Int) (s0_1 : Int) (s0_2 : Int) (r1 : Int) (r2 : Int) (r3 : Int) (w0 w : World) (hI : IsS101 w0 w g s0_0 s0_1 s0_2) (hB : Below w0.heap.size w0 w) (h : spec_l07DrawRank.f s0_0 s0_1 s0_2 = some (r1, r2, r3)) :
 Calls Try.prog 61 #[.pointer (some ⟨g, 0, none⟩)] w fun e w' => e = .returned (.int .i64 r1) ∧ IsS101 w0 w' g s0_0 r2 r3 ∧ Below w0.heap.size w0 w' ∧ KeepBut w w' g none := by
 have HI0 := yD hI
 have HK := yD (KeepBut.refl w g none)
 have HL := yD hB.size
 clear hI
 have HW0 := yD hB.size
 have HB := yD hB
 clear hB
 have H : ((spec_l00Src_among.f s0_0 s0_1 s0_2 (([1, 2, 2, 2, 3, 3, 0] : List Int))).bind fun bt116 => (some (bt116.1, bt116.2.1, bt116.2.2))) = some (r1, r2, r3) := h
 clear h
 obtain ⟨y113, hy113⟩ : ∃ y_ : List Int, y_ = (([1, 2, 2, 2, 3, 3, 0] : List Int)) := ⟨_, rfl⟩
 replace H : ((spec_l00Src_among.f s0_0 s0_1 s0_2 y113).bind fun bt116 => (some (bt116.1, bt116.2.1, bt116.2.2))) = some (r1, r2, r3) := by first | (rw [hy113]; with_reducible exact H) | (have H2_ := (Option.bind_some _ _).symm.trans H; rw [hy113]; with_reducible exact H2_) | (have H2_ := (Option.bind_some _ _).symm.trans H; with_reducible exact H2_) | with_reducible exact H | (rw [hy113]; exact H) | exact H
 have Ny113 := yD hy113
 clear hy113
 obtain ⟨⟨t116, t117, t118⟩, A20, H⟩ := zW_ H
 replace H : (some (t116, t117, t118)) = some (r1, r2, r3) := H
 have A2 := yD A20
 clear A20
 simp only [Option.some.injEq, Prod.mk.injEq] at H
 obtain ⟨rfl, rfl, rfl⟩ := H
 go_enter Try.func61, Try.ntmps61
 go_wp2_with (first | ((with_reducible refine gate_dst (N := 4) rfl ?_); refine Kd.R_lit (Kd.int .i64) _ 2 ?hg (N := 4) ?hd (xs := ([1, 2, 2, 2, 3, 3, 0] : List Int)) (inner := [.int .i64 1, .int .i64 2, .int .i64 2, .int .i64 2, .int .i64 3, .int .i64 3, .int .i64 0]) (ok := fun _ => True) (okp := fun _ => True) ?hr ?hp (fun _ hk => hk) trivial (Below.refl _ _) (Nat.le_refl _) (by simp) ?_; (case hd => rfl); (case hg => rfl); (case hr => first | (go_simp; done) | (go_simp; rfl)); (case hp => exact (Reps.one (show Kd.M (Kd.int .i64) _ _ _ 1 [.int .i64 1] from rfl) (Reps.one (show Kd.M (Kd.int .i64) _ _ _ 2 [.int .i64 2] from rfl) (Reps.one (show Kd.M (Kd.int .i64) _ _ _ 2 [.int .i64 2] from rfl) (Reps.one (show Kd.M (Kd.int .i64) _ _ _ 2 [.int .i64 2] from rfl) (Reps.one (show Kd.M (Kd.int .i64) _ _ _ 3 [.int .i64 3] from rfl) (Reps.one (show Kd.M (Kd.int .i64) _ _ _ 3 [.int .i64 3] from rfl) (Reps.one (show Kd.M (Kd.int .i64) _ _ _ 0 [.int .i64 0] from rfl) (Reps.none _ _))))))))); intro v114 w3 ho4 hb hg_ hnew_; clear hg_ hnew_; (first | rw [← Ny113.out] at ho4 | (simp only [Int.reduceToNat] at ho4; rw [← Ny113.out] at ho4)); have n0_ := yD (yZ ho4 (keep_size (w := w) (g := g) (row := none) (kR4 HK))); have n1_ := yD (IsS101.below (kR2 HI0) hb); have n2_ := yD (KeepBut.trans (kR4 HK) (KeepBut.of_below hb g none) (.inl rfl)); have n3_ := yD (zC (kR3 HB) hb); clear HI0; clear HK; clear HB; have HO115 := n0_; have HI0 := n1_; have HK := n2_; have HB := n3_; clear n0_ n1_ n2_ n3_; clear hb ho4; obtain ⟨Ao5, co5, eo5⟩ := Kd.R_slice HO115.out; subst eo5) | ((with_reducible refine gate_callee (f := 100) rfl ?_); refine goesL_ (some 5) rfl rfl Try.func100 (by kernel_rfl) rfl #[.pointer (some ⟨g, 0, none⟩), .slice Ao5 y113.length co5] rfl (by (try simp only [zK, zL, zM]); first | done | rfl | (simp only [zN, zO]; rfl)) ?_; (with_reducible refine (spec_l00Src_among.calls g s0_0 s0_1 s0_2 _ _ y113 t116 t117 t118 w0 _ ?side1 ?side2 ?side3 ?side4 ?side5 A2.out).mono ?_); (case side1 => exact kR2 HI0); (case side2 => exact kR3 HB); (case side3 => exact kV (zA HO115.out).2.2); (case side4 => exact (zA HO115.out).2.1); (case side5 => exact far_slice (IsS101.own_ne HI0.out HO115.out (by decide))); rintro e w6 ⟨rfl, hi, hb, hk⟩; refine ⟨_, rfl, ?_⟩; have n0_ := yD (zF (Kd.R_keep (IsS101.apart (show IsS101 w0 _ g s0_0 s0_1 s0_2 from kR2 HI0) (kA HO115) (by decide)) hk (fun _ h => h.2)) (fun _ h => h.1)); have n1_ := yD (KeepBut.trans (kR4 HK) hk (.inl rfl)); have n2_ := yD (hb); have n3_ := yD (hi); clear HO115; clear HK; clear HB; clear HI0; have HO115 := n0_; have HK := n1_; have HB := n2_; have HI0 := n3_; clear n0_ n1_ n2_ n3_; (try clear hb); (try clear hb2); (try clear hk); (try clear hi)))
 go_ret
 exact ⟨by first | rfl | (simp <;> rfl) | (simp [*] <;> rfl), kR2 HI0, kR3 HB, kR4 HK⟩

/-! ### spec_l07DrawBox: function 102 -/
def spec_l07DrawBox.l0 : Nat → Int → List Int → Int → Int → List Int → List Int → Option (List Int × List Int × Int × Int)
 | 0, _, _, _, _, _, _ => none
 | k + 1, x1, x1000, x1001, x1002, x121000, x121001 => if x1 > 0 then ((spec_l00Src_pick.f x1000 x1001 x1002 6).bind fun bt121 => ((spec_l00Src_pick.f x1000 bt121.2.1 bt121.2.2 4).bind fun bt124 => (if x121000.length < 17592186044416 then (if x121001.length < 17592186044416 then (spec_l07DrawBox.l0 k (wrap64 (x1 - 1)) x1000 bt124.2.1 bt124.2.2 (x121000 ++ [bt121.1]) (x121001 ++ [wrap64 ((wrap64 (bt121.1 + 1)) + bt124.1)])) else (none)) else (none)))) else (some (x121000, x121001, x1001, x1002))
def spec_l07DrawBox.f (k : Nat) (s0_0 : List Int) (s0_1 : Int) (s0_2 : Int) (a1 : Int) : Option (List Int × List Int × Int × Int) := spec_l07DrawBox.l0 k a1 s0_0 s0_1 s0_2 ([] : List Int) ([] : List Int)
theorem spec_l07DrawBox.mono_l : ∀ k, (∀ y0 y1 y2 y3 y4 y5, LeO (spec_l07DrawBox.l0 k y0 y1 y2 y3 y4 y5) (spec_l07DrawBox.l0 (k + 1) y0 y1 y2 y3 y4 y5))
 | 0 => fun _ _ _ _ _ _ r h => by simp [spec_l07DrawBox.l0] at h
 | k + 1 => by
  have ih0 := spec_l07DrawBox.mono_l k
  ·
   intro y0 y1 y2 y3 y4 y5
   unfold spec_l07DrawBox.l0
   repeat' first
   | (with_reducible exact ih0 _ _ _ _ _ _)
   | (with_reducible exact LeO.refl _)
   | (with_reducible exact LeO.none _)
   | (with_reducible refine LeO.ite ?_ ?_)
   | (with_reducible refine LeO.bind ?_ (fun _ => ?_))
   | exact ih0 _ _ _ _ _ _
   | exact LeO.none _
   | refine LeO.ite ?_ ?_
   | refine LeO.bind ?_ (fun _ => ?_)
theorem spec_l07DrawBox.mono : ∀ a0 a1 a2 a3 k, LeO (spec_l07DrawBox.f k a0 a1 a2 a3) (spec_l07DrawBox.f (k + 1) a0 a1 a2 a3) := by
 intro a0 a1 a2 a3 k
 have ih0 := spec_l07DrawBox.mono_l k
 unfold spec_l07DrawBox.f
 repeat' first
  | (with_reducible exact ih0 _ _ _ _ _ _)
  | (with_reducible exact LeO.refl _)
  | (with_reducible exact LeO.none _)
  | (with_reducible refine LeO.ite ?_ ?_)
  | (with_reducible refine LeO.bind ?_ (fun _ => ?_))
  | exact ih0 _ _ _ _ _ _
  | exact LeO.none _
  | refine LeO.ite ?_ ?_
  | refine LeO.bind ?_ (fun _ => ?_)
set_option maxHeartbeats 8000000 in
set_option maxRecDepth 100000 in
theorem spec_l07DrawBox.calls (k : Nat) (g : Nat) (s0_0 : List Int) (s0_1 : Int) (s0_2 : Int) (a1 : Int) (r1 : List Int) (r2 : List Int) (r3 : Int) (r4 : Int) (w0 w : World) (hI : IsS101 w0 w g s0_0 s0_1 s0_2) (hB : Below w0.heap.size w0 w) (h : spec_l07DrawBox.f k s0_0 s0_1 s0_2 a1 = some (r1, r2, r3, r4)) :
 Calls Try.prog 102 #[.pointer (some ⟨g, 0, none⟩), .int .i64 a1] w fun e w' => ∃ v0_ v1_ : Value, e = .returned (.agg #[v0_, v1_]) ∧ Kd.R (Kd.int .i64) 2 w' w.heap.size (fun k_ => some k_ ≠ (v1_ : Value).ownBlock) v0_ r1 ∧ Kd.R (Kd.int .i64) 2 w' w.heap.size (fun k_ => some k_ ≠ (v0_ : Value).ownBlock) v1_ r2 ∧ IsS101 w0 w' g s0_0 r3 r4 ∧ Below w0.heap.size w0 w' ∧ KeepBut w w' g none := by
 have hu42 := Try.underlying42
 have HI0 := yD hI
 have HK := yD (KeepBut.refl w g none)
 have HL := yD hB.size
 clear hI
 have HW0 := yD hB.size
 have HB := yD hB
 clear hB
 have H : (spec_l07DrawBox.l0 k a1 s0_0 s0_1 s0_2 ([] : List Int) ([] : List Int)) = some (r1, r2, r3, r4) := h
 clear h
 have H' := yD H
 clear H; go_enter Try.func102, Try.ntmps102
 go_wp2_with (first | ((with_reducible refine gate_dst (N := 4) rfl ?_); refine box_event ?hg (N := 4) ?hd (cs := #[.slice none 0 0, .slice none 0 0]) (t := 42) ?hr ?_; (case hd => rfl); (case hg => rfl); (case hr => first | (go_simp; done) | (go_simp; rfl)); intro gb119 hg w3 hbox hb; have n0_ := yD (IsS101.below (kR2 HI0) hb); have n1_ := yD (KeepBut.trans (kR4 HK) (KeepBut.of_below hb g none) (.inl rfl)); have n2_ := yD (zC (kR3 HB) hb); have n3_ := yD (hbox); have n4_ := yD ((by rw [hg]; exact (keep_size (w := w) (g := g) (row := none) (kR4 HK)) : w.heap.size ≤ gb119)); have n5_ := yD ((Nat.le_trans HW0.out (by rw [hg]; exact (keep_size (w := w) (g := g) (row := none) (kR4 HK)) : w.heap.size ≤ gb119) : w0.heap.size ≤ gb119)); have n6_ := yD ((by rw [hg]; exact Nat.ne_of_lt (IsS101.lt (show IsS101 w0 _ g s0_0 s0_1 s0_2 from kR2 HI0)) : g ≠ gb119)); have n7_ := yD ((by rw [hg]; exact Nat.ne_of_gt (IsS101.lt (show IsS101 w0 _ g s0_0 s0_1 s0_2 from kR2 HI0)) : gb119 ≠ g)); clear HI0; clear HK; clear HB; have HI0 := n0_; have HK := n1_; have HB := n2_; have BK119 := n3_; have GW119 := n4_; have GE119 := n5_; have NB0_119 := n6_; have NB119_0 := n7_; clear n0_ n1_ n2_ n3_ n4_ n5_ n6_ n7_; clear hb hbox hg) | ((with_reducible refine gate_dst (N := 5) rfl ?_); refine box_event ?hg (N := 5) ?hd (cs := #[.slice none 0 0, .slice none 0 0]) (t := 42) ?hr ?_; (case hd => rfl); (case hg => rfl); (case hr => first | (go_simp; done) | (go_simp; rfl)); intro gb120 hg w4 hbox hb; have n0_ := yD (IsS101.below (kR5 HI0) hb); have n1_ := yD (zB (g := gb119) (o := .cells #[.slice none 0 0, .slice none 0 0] 42 (0, 0)) (kM BK119) hb); have n2_ := yD (KeepBut.trans (kR6 HK) (KeepBut.of_below hb g none) (.inl rfl)); have n3_ := yD (zC (kR7 HB) hb); have n4_ := yD (hbox); have n5_ := yD ((by rw [hg]; exact (keep_size (w := w) (g := g) (row := none) (kR6 HK)) : w.heap.size ≤ gb120)); have n6_ := yD ((Nat.le_trans HW0.out (by rw [hg]; exact (keep_size (w := w) (g := g) (row := none) (kR6 HK)) : w.heap.size ≤ gb120) : w0.heap.size ≤ gb120)); have n7_ := yD ((by rw [hg]; exact Nat.ne_of_lt (blk_lt (g := gb119) (o := .cells #[.slice none 0 0, .slice none 0 0] 42 (0, 0)) (kM BK119)) : gb119 ≠ gb120)); have n8_ := yD ((by rw [hg]; exact Nat.ne_of_gt (blk_lt (g := gb119) (o := .cells #[.slice none 0 0, .slice none 0 0] 42 (0, 0)) (kM BK119)) : gb120 ≠ gb119)); have n9_ := yD ((by rw [hg]; exact Nat.ne_of_lt (IsS101.lt (show IsS101 w0 _ g s0_0 s0_1 s0_2 from kR5 HI0)) : g ≠ gb120)); have n10_ := yD ((by rw [hg]; exact Nat.ne_of_gt (IsS101.lt (show IsS101 w0 _ g s0_0 s0_1 s0_2 from kR5 HI0)) : gb120 ≠ g)); clear HI0; clear BK119; clear HK; clear HB; have HI0 := n0_; have BK119 := n1_; have HK := n2_; have HB := n3_; have BK120 := n4_; have GW120 := n5_; have GE120 := n6_; have NB119_120 := n7_; have NB120_119 := n8_; have NB0_120 := n9_; have NB120_0 := n10_; clear n0_ n1_ n2_ n3_ n4_ n5_ n6_ n7_ n8_ n9_ n10_; clear hb hbox hg; have hnb5 := NB120_119.out; have hnc5 := NB119_120.out; have hnb6 := NB120_0.out; have hnc6 := NB0_120.out; obtain ⟨hcz7_0, hcz7_1⟩ := cz2 BK120.out; obtain ⟨hfz7_0, hfz7_1⟩ := fz2 BK120.out))
 (try simp only [Act.put, zH, zI, zJ])
 go_loopg [1] k (fun kq v1 w' => ∃ (x1_1 : Int) (x1001_1 : Int) (x1002_1 : Int) (x121000_1 : List Int) (x121001_1 : List Int) (u121000 : Value) (u121001 : Value), v1 = .int .i64 x1_1 ∧ Aside0 (spec_l07DrawBox.l0 kq x1_1 s0_0 x1001_1 x1002_1 x121000_1 x121001_1 = some (r1, r2, r3, r4)) ∧ Aside0 (kq ≤ k) ∧ Aside0 (Kd.R (Kd.int .i64) 2 w' w.heap.size (fun k_ => some k_ ≠ (u121001 : Value).ownBlock) u121000 x121000_1) ∧ Aside0 (Kd.R (Kd.int .i64) 2 w' w.heap.size (fun k_ => some k_ ≠ (u121000 : Value).ownBlock) u121001 x121001_1) ∧ Aside0 (w'.heap[gb119]? = some (.cells #[(.slice none 0 0), (.slice none 0 0)] 42 (0, 0))) ∧ Aside0 (w'.heap[gb120]? = some (.cells #[u121000, u121001] 42 (0, 0))) ∧ Aside0 (IsS101 w0 w' g s0_0 x1001_1 x1002_1) ∧ Aside0 (KeepBut w w' g none) ∧ Aside0 (Below w0.heap.size w0 w'))
 case atStart => exact ⟨(a1), (s0_1), (s0_2), (([] : List Int)), (([] : List Int)), (.slice none 0 0), (.slice none 0 0), (by first | rfl | (simp; done) | (simp [*]; done)), H', ⟨Nat.le_refl _⟩, ⟨by first | exact Kd.R_nil _ _ _ _ _ | exact Kd.N_nil _ _ _ _ _ | exact Kd.V_nil _ _ _ _ _ | exact Kd.Q_nil _ _ _ _ _ | exact Kd.S_nil _ _ _ _ _⟩, ⟨by first | exact Kd.R_nil _ _ _ _ _ | exact Kd.N_nil _ _ _ _ _ | exact Kd.V_nil _ _ _ _ _ | exact Kd.Q_nil _ _ _ _ _ | exact Kd.S_nil _ _ _ _ _⟩, ⟨by (with_reducible repeat (first | refine yM ?_ _ | refine yO ?_ | refine yN ?_ _)); refine blk_far ?_ NB119_120.out _; (with_reducible repeat (first | refine yM ?_ _ | refine yO ?_ | refine yN ?_ _)); refine blk_far ?_ NB119_120.out _; (with_reducible repeat (first | refine yM ?_ _ | refine yO ?_ | refine yN ?_ _)); exact BK119.out⟩, ⟨by (with_reducible repeat (first | refine yM ?_ _ | refine yO ?_ | refine yN ?_ _)); refine blk_put (cs := #[.slice none 0 0, .slice none 0 0]) ?_ 1 _ rfl; (with_reducible repeat (first | refine yM ?_ _ | refine yO ?_ | refine yN ?_ _)); refine blk_put (cs := #[.slice none 0 0, .slice none 0 0]) ?_ 0 _ rfl; (with_reducible repeat (first | refine yM ?_ _ | refine yO ?_ | refine yN ?_ _)); exact BK120.out⟩, ⟨kR5 HI0⟩, ⟨kR6 HK⟩, ⟨kR7 HB⟩⟩
 case round =>
  clear H'
  try clear c1; try clear p2; try clear c5; try clear c6; try clear hcz7_0; try clear hcz7_1; try clear hfz7_0; try clear hfz7_1
  obtain ⟨x1_1, x1001_1, x1002_1, x121000_1, x121001_1, u121000, u121001, rfl, HA, HK1, HO_121000, HO_121001, BK119, BK120, HI0, HK, HB⟩ := hrel
  cases gk with
  | zero => exact absurd HA.out (by simp [spec_l07DrawBox.l0])
  | succ k1 =>
   have H := HA.out; clear HA
   simp only [spec_l07DrawBox.l0] at H
   by_cases c8 : x1_1 > 0
   ·
    rw [if_pos c8] at H
    have c8b0 : decide (0 < x1_1) = true := zR c8; clear c8
    obtain ⟨⟨t121, t122, t123⟩, A90, H⟩ := zW_ H
    replace H : ((spec_l00Src_pick.f s0_0 t122 t123 4).bind fun bt124 => (if x121000_1.length < 17592186044416 then (if x121001_1.length < 17592186044416 then (spec_l07DrawBox.l0 k1 (wrap64 (x1_1 - 1)) s0_0 bt124.2.1 bt124.2.2 (x121000_1 ++ [t121]) (x121001_1 ++ [wrap64 ((wrap64 (t121 + 1)) + bt124.1)])) else (none)) else (none))) = some (r1, r2, r3, r4) := H
    have A9 := yD A90
    clear A90
    obtain ⟨⟨t124, t125, t126⟩, A100, H⟩ := zW_ H
    replace H : (if x121000_1.length < 17592186044416 then (if x121001_1.length < 17592186044416 then (spec_l07DrawBox.l0 k1 (wrap64 (x1_1 - 1)) s0_0 t125 t126 (x121000_1 ++ [t121]) (x121001_1 ++ [wrap64 ((wrap64 (t121 + 1)) + t124)])) else (none)) else (none)) = some (r1, r2, r3, r4) := H
    have A10 := yD A100
    clear A100
    by_cases c11 : x121000_1.length < 17592186044416
    ·
     rw [if_pos c11] at H
     have LMc11 := yD c11
     clear c11
     obtain ⟨y127, hy127⟩ : ∃ y_ : List Int, y_ = (x121000_1 ++ [t121]) := ⟨_, rfl⟩
     replace H : (if x121001_1.length < 17592186044416 then (spec_l07DrawBox.l0 k1 (wrap64 (x1_1 - 1)) s0_0 t125 t126 y127 (x121001_1 ++ [wrap64 ((wrap64 (t121 + 1)) + t124)])) else (none)) = some (r1, r2, r3, r4) := by first | (rw [hy127]; with_reducible exact H) | (have H2_ := (Option.bind_some _ _).symm.trans H; rw [hy127]; with_reducible exact H2_) | (have H2_ := (Option.bind_some _ _).symm.trans H; with_reducible exact H2_) | with_reducible exact H | (rw [hy127]; exact H) | exact H
     have Ny127 := yD hy127
     clear hy127
     by_cases c12 : x121001_1.length < 17592186044416
     ·
      rw [if_pos c12] at H
      have LMc12 := yD c12
      clear c12
      obtain ⟨y130, hy130⟩ : ∃ y_ : List Int, y_ = (x121001_1 ++ [wrap64 ((wrap64 (t121 + 1)) + t124)]) := ⟨_, rfl⟩
      replace H : (spec_l07DrawBox.l0 k1 (wrap64 (x1_1 - 1)) s0_0 t125 t126 y127 y130) = some (r1, r2, r3, r4) := by first | (rw [hy130]; with_reducible exact H) | (have H2_ := (Option.bind_some _ _).symm.trans H; rw [hy130]; with_reducible exact H2_) | (have H2_ := (Option.bind_some _ _).symm.trans H; with_reducible exact H2_) | with_reducible exact H | (rw [hy130]; exact H) | exact H
      have Ny130 := yD hy130
      clear hy130
      have H' := yD H
      clear H
      go_wp2_with (first | ((with_reducible refine gate_callee (f := 101) rfl ?_); refine goesL_ (some 14) rfl rfl Try.func101 (by kernel_rfl) rfl #[.pointer (some ⟨g, 0, none⟩), .int .i64 6] rfl (by (try simp only [zK, zL, zM]); first | done | rfl | (simp only [zN, zO]; rfl)) ?_; (with_reducible refine (spec_l00Src_pick.calls g s0_0 x1001_1 x1002_1 6 t121 t122 t123 w0 _ ?side1 ?side2 A9.out).mono ?_); (case side1 => exact kR5 HI0); (case side2 => exact kR7 HB); rintro e w13 ⟨rfl, hi, hb, hk⟩; refine ⟨_, rfl, ?_⟩; have n0_ := yD (zF (Kd.R_keep (IsS101.apart (show IsS101 w0 _ g s0_0 x1001_1 x1002_1 from kR5 HI0) (kA HO_121000) (by decide)) hk (fun _ h => h.2)) (fun _ h => h.1)); have n1_ := yD (zF (Kd.R_keep (IsS101.apart (show IsS101 w0 _ g s0_0 x1001_1 x1002_1 from kR5 HI0) (kA HO_121001) (by decide)) hk (fun _ h => h.2)) (fun _ h => h.1)); have n2_ := yD (KeepBut.blk hk (g' := gb119) (o := .cells #[.slice none 0 0, .slice none 0 0] 42 (0, 0)) (kM BK119) NB119_0.out (by simp)); have n3_ := yD (KeepBut.blk hk (g' := gb120) (o := .cells #[u121000, u121001] 42 (0, 0)) (kM BK120) NB120_0.out (by simp)); have n4_ := yD (KeepBut.trans (kR6 HK) hk (.inl rfl)); have n5_ := yD (hb); have n6_ := yD (hi); clear HO_121000; clear HO_121001; clear BK119; clear BK120; clear HK; clear HB; clear HI0; have HO_121000 := n0_; have HO_121001 := n1_; have BK119 := n2_; have BK120 := n3_; have HK := n4_; have HB := n5_; have HI0 := n6_; clear n0_ n1_ n2_ n3_ n4_ n5_ n6_; (try clear hb); (try clear hb2); (try clear hk); (try clear hi)) | ((with_reducible refine gate_callee (f := 101) rfl ?_); refine goesL_ (some 18) rfl rfl Try.func101 (by kernel_rfl) rfl #[.pointer (some ⟨g, 0, none⟩), .int .i64 4] rfl (by (try simp only [zK, zL, zM]); first | done | rfl | (simp only [zN, zO]; rfl)) ?_; (with_reducible refine (spec_l00Src_pick.calls g s0_0 t122 t123 4 t124 t125 t126 w0 _ ?side1 ?side2 A10.out).mono ?_); (case side1 => exact kR5 HI0); (case side2 => exact kR7 HB); rintro e w14 ⟨rfl, hi, hb, hk⟩; refine ⟨_, rfl, ?_⟩; have n0_ := yD (zF (Kd.R_keep (IsS101.apart (show IsS101 w0 _ g s0_0 t122 t123 from kR5 HI0) (kA HO_121000) (by decide)) hk (fun _ h => h.2)) (fun _ h => h.1)); have n1_ := yD (zF (Kd.R_keep (IsS101.apart (show IsS101 w0 _ g s0_0 t122 t123 from kR5 HI0) (kA HO_121001) (by decide)) hk (fun _ h => h.2)) (fun _ h => h.1)); have n2_ := yD (KeepBut.blk hk (g' := gb119) (o := .cells #[.slice none 0 0, .slice none 0 0] 42 (0, 0)) (kM BK119) NB119_0.out (by simp)); have n3_ := yD (KeepBut.blk hk (g' := gb120) (o := .cells #[u121000, u121001] 42 (0, 0)) (kM BK120) NB120_0.out (by simp)); have n4_ := yD (KeepBut.trans (kR6 HK) hk (.inl rfl)); have n5_ := yD (hb); have n6_ := yD (hi); clear HO_121000; clear HO_121001; clear BK119; clear BK120; clear HK; clear HB; clear HI0; have HO_121000 := n0_; have HO_121001 := n1_; have BK119 := n2_; have BK120 := n3_; have HK := n4_; have HB := n5_; have HI0 := n6_; clear n0_ n1_ n2_ n3_ n4_ n5_ n6_; (try clear hb); (try clear hb2); (try clear hk); (try clear hi); have hnb15 := NB120_119.out; have hnc15 := NB119_120.out; have hnb16 := NB120_0.out; have hnc16 := NB0_120.out; obtain ⟨hcz17_0, hcz17_1⟩ := cz2 BK120.out; obtain ⟨hfz17_0, hfz17_1⟩ := fz2 BK120.out) | ((with_reducible refine gate_builtin (b := .append) (xs := #[.tmp 21, .tmp 23]) rfl ?_); at_builtin; refine Kd.R_append (Kd.int .i64) w.heap.size rfl (.tmp 21) (.tmp 23) 36 2 (.int .i64 0) 8 rfl Try.underlying36 info2 rfl (by decide) (by omega) u121000 x121000_1 t121 [.int .i64 t121] (fun k_ => some k_ ≠ (u121001 : Value).ownBlock) (fun _ => False) rfl rfl ?aP (fun _ hk => hk.elim) ?aF ?aO (Below.refl _ _) ?aS ?aL ?_; (case aP => exact rfl); (case aF => exact (fun k_ hk => Kd.fresh' (yK (kA HO_121001)) k_ hk)); (case aO => exact (kA HO_121000)); (case aS => exact (keep_size (w := w) (g := g) (row := none) (kR6 HK))); (case aL => have := LMc11.out; omega); intro v128 w18 ho hb hg hat; rw [← Ny127.out] at ho; have n0_ := yD (Kd.R_after (ok := (fun _ => True)) (by (with_reducible repeat (first | apply yA | apply yB | apply yC)); exact zF HO_121001.out (fun _ hk => ⟨trivial, hk⟩)) hg hat); have n1_ := yD (blk_grown (g := gb119) (o := .cells #[.slice none 0 0, .slice none 0 0] 42 (0, 0)) (kM BK119) hg (Kd.R_ne HO_121000.out BK119.out (by decide))); have n2_ := yD (blk_grown (g := gb120) (o := .cells #[u121000, u121001] 42 (0, 0)) (kM BK120) hg (Kd.R_ne HO_121000.out BK120.out (by decide))); have n3_ := yD (IsS101.grown (kR5 HI0) hg (IsS101.own_ne HI0.out HO_121000.out (by decide))); have n4_ := yD (below_weaken (kR7 HB) HL.out hb); have n5_ := yD (KeepBut.trans (kR6 HK) (KeepBut.of_grown hg g) (Kd.R_base2 HO_121000.out)); have n6_ := yD (ho); clear HO_121001; clear BK119; clear BK120; clear HI0; clear HB; clear HK; clear HO_121000; have HO_121001 := n0_; have BK119 := n1_; have BK120 := n2_; have HI0 := n3_; have HB := n4_; have HK := n5_; have HO129 := n6_; clear n0_ n1_ n2_ n3_ n4_ n5_ n6_; clear ho hb hg hat; obtain ⟨Ao19, co19, eo19⟩ := Kd.R_slice HO129.out; subst eo19; obtain ⟨hcz20_0, hcz20_1⟩ := cz2 BK120.out; obtain ⟨hfz20_0, hfz20_1⟩ := fz2 BK120.out) | ((with_reducible refine gate_builtin (b := .append) (xs := #[.tmp 27, .tmp 29]) rfl ?_); at_builtin; refine Kd.R_append (Kd.int .i64) w.heap.size rfl (.tmp 27) (.tmp 29) 36 2 (.int .i64 0) 8 rfl Try.underlying36 info2 rfl (by decide) (by omega) u121001 x121001_1 (wrap64 ((wrap64 (t121 + 1)) + t124)) [.int .i64 (wrap64 ((wrap64 (t121 + 1)) + t124))] (fun k_ => some k_ ≠ (.slice Ao19 y127.length co19 : Value).ownBlock) (fun _ => False) rfl (by first | (go_simp; done) | (go_simp; rfl)) ?aP (fun _ hk => hk.elim) ?aF ?aO (Below.refl _ _) ?aS ?aL ?_; (case aP => exact rfl); (case aF => exact (fun k_ hk => Kd.fresh' (yK (by (with_reducible repeat (first | apply yA | apply yB | apply yC)); exact (zF (yF (p := ⟨gb120, 0, none⟩) (Kd.R_types HO129.out BK120.out (by decide)) (fun _ hk => hk.2) (.slice Ao19 y127.length co19)) (fun _ h_ => h_.1)))) k_ hk)); (case aO => exact (by (with_reducible repeat (first | apply yA | apply yB | apply yC)); exact zF (yF (p := ⟨gb120, 0, none⟩) (Kd.R_types HO_121001.out BK120.out (by decide)) (fun _ hk => hk.2) (.slice Ao19 y127.length co19)) (fun _ hk => hk.1.2))); (case aS => exact (keep_size (w := w) (g := g) (row := none) (kR6 HK))); (case aL => have := LMc12.out; omega); intro v131 w21 ho hb hg hat; rw [← Ny130.out] at ho; have n0_ := yD (blk_grown (g := gb119) (o := .cells #[.slice none 0 0, .slice none 0 0] 42 (0, 0)) (by (with_reducible repeat (first | refine yM ?_ _ | refine yO ?_ | refine yN ?_ _)); refine blk_far ?_ NB119_120.out _; (with_reducible repeat (first | refine yM ?_ _ | refine yO ?_ | refine yN ?_ _)); exact BK119.out) hg (Kd.R_ne HO_121001.out BK119.out (by decide))); have n1_ := yD (blk_grown (g := gb120) (o := .cells #[.slice Ao19 y127.length co19, u121001] 42 (0, 0)) (by (with_reducible repeat (first | refine yM ?_ _ | refine yO ?_ | refine yN ?_ _)); refine blk_put (cs := #[u121000, u121001]) ?_ 0 _ rfl; (with_reducible repeat (first | refine yM ?_ _ | refine yO ?_ | refine yN ?_ _)); exact BK120.out) hg (Kd.R_ne HO_121001.out BK120.out (by decide))); have n2_ := yD (IsS101.grown (kR5 HI0) hg (IsS101.own_ne HI0.out HO_121001.out (by decide))); have n3_ := yD (Kd.R_after (ok := (fun _ => True)) (by (with_reducible repeat (first | apply yA | apply yB | apply yC)); exact zF (yF (p := ⟨gb120, 0, none⟩) (Kd.R_types HO129.out BK120.out (by decide)) (fun _ hk => hk.2) (.slice Ao19 y127.length co19)) (fun _ hk => ⟨trivial, hk.1⟩)) hg hat); have n4_ := yD (below_weaken (kR7 HB) HL.out hb); have n5_ := yD (KeepBut.trans (kR6 HK) (KeepBut.of_grown hg g) (Kd.R_base2 HO_121001.out)); have n6_ := yD (ho); clear BK119; clear BK120; clear HI0; clear HO129; clear HB; clear HK; clear HO_121001; have BK119 := n0_; have BK120 := n1_; have HI0 := n2_; have HO129 := n3_; have HB := n4_; have HK := n5_; have HO132 := n6_; clear n0_ n1_ n2_ n3_ n4_ n5_ n6_; clear ho hb hg hat; obtain ⟨Ao22, co22, eo22⟩ := Kd.R_slice HO132.out; subst eo22; obtain ⟨hcz23_0, hcz23_1⟩ := cz2 BK120.out; obtain ⟨hfz23_0, hfz23_1⟩ := fz2 BK120.out))
      go_roundg k1
      case measure => have := HK1.out; omega
      case rel => exact ⟨(wrap64 (x1_1 - 1)), (t125), (t126), (y127), (y130), (.slice Ao19 y127.length co19), (.slice Ao22 y130.length co22), (by first | rfl | (simp; done) | (simp [*]; done)), H', ⟨by have := HK1.out; omega⟩, ⟨by (with_reducible repeat (first | apply yA | apply yB | apply yC)); exact zF (yF (p := ⟨gb120, 1, none⟩) (Kd.R_types HO129.out BK120.out (by decide)) (fun _ hk => hk.2) (.slice Ao22 y130.length co22)) (fun _ hk => hk.1.2)⟩, ⟨by (with_reducible repeat (first | apply yA | apply yB | apply yC)); exact zF (yF (p := ⟨gb120, 1, none⟩) (Kd.R_types HO132.out BK120.out (by decide)) (fun _ hk => hk.2) (.slice Ao22 y130.length co22)) (fun _ hk => hk.1)⟩, ⟨by (with_reducible repeat (first | refine yM ?_ _ | refine yO ?_ | refine yN ?_ _)); refine blk_far ?_ NB119_120.out _; (with_reducible repeat (first | refine yM ?_ _ | refine yO ?_ | refine yN ?_ _)); exact BK119.out⟩, ⟨by (with_reducible repeat (first | refine yM ?_ _ | refine yO ?_ | refine yN ?_ _)); refine blk_put (cs := #[.slice Ao19 y127.length co19, u121001]) ?_ 1 _ rfl; (with_reducible repeat (first | refine yM ?_ _ | refine yO ?_ | refine yN ?_ _)); exact BK120.out⟩, ⟨kR5 HI0⟩, ⟨kR6 HK⟩, ⟨kR7 HB⟩⟩
     · rw [if_neg c12] at H
       exact absurd H (by simp)
    · rw [if_neg c11] at H
      exact absurd H (by simp)
   ·
    rw [if_neg c8] at H
    have c8b0 : decide (0 < x1_1) = false := zS c8; clear c8
    simp only [Option.some.injEq, Prod.mk.injEq] at H
    obtain ⟨rfl, rfl, rfl, rfl⟩ := H
    have hnb24 := NB120_119.out; have hnc24 := NB119_120.out; have hnb25 := NB120_0.out; have hnc25 := NB0_120.out
    obtain ⟨hcz26_0, hcz26_1⟩ := cz2 BK120.out
    obtain ⟨hfz26_0, hfz26_1⟩ := fz2 BK120.out
    obtain ⟨Ao27, co27, eo27⟩ := Kd.R_slice HO_121000.out
    subst eo27; have hnb28 := NB119_0.out; have hnc28 := NB0_119.out
    obtain ⟨hcz29_0, hcz29_1⟩ := cz2 BK119.out
    obtain ⟨hfz29_0, hfz29_1⟩ := fz2 BK119.out
    obtain ⟨Ao30, co30, eo30⟩ := Kd.R_slice HO_121001.out
    subst eo30
    go_wp2
    refine bodyPost_ret (results_cell_row rfl _ _ gb119 42 #[.slice Ao27 x121000_1.length co27, .slice Ao30 x121001_1.length co30] (0, 0) _ rfl (by (with_reducible repeat (first | refine yM ?_ _ | refine yO ?_ | refine yN ?_ _)); refine blk_put (cs := #[.slice Ao27 x121000_1.length co27, .slice none 0 0]) ?_ 1 _ rfl; (with_reducible repeat (first | refine yM ?_ _ | refine yO ?_ | refine yN ?_ _)); refine blk_put (cs := #[.slice none 0 0, .slice none 0 0]) ?_ 0 _ rfl; (with_reducible repeat (first | refine yM ?_ _ | refine yO ?_ | refine yN ?_ _)); exact BK119.out) Try.underlying42 rfl (by kernel_rfl)) rfl ?_
    exact ⟨_, _, by first | rfl | (simp <;> rfl) | (simp [*] <;> rfl), by (with_reducible repeat (first | apply yA | apply yB | apply yC)); exact zF (yF (p := ⟨gb119, 1, none⟩) (yF (p := ⟨gb119, 0, none⟩) (Kd.R_types HO_121000.out BK119.out (by decide)) (fun _ hk => hk.2) (.slice Ao27 x121000_1.length co27)) (fun _ hk => hk.2) (.slice Ao30 x121001_1.length co30)) (fun _ hk => hk.1), by (with_reducible repeat (first | apply yA | apply yB | apply yC)); exact zF (yF (p := ⟨gb119, 1, none⟩) (yF (p := ⟨gb119, 0, none⟩) (Kd.R_types HO_121001.out BK119.out (by decide)) (fun _ hk => hk.2) (.slice Ao27 x121000_1.length co27)) (fun _ hk => hk.2) (.slice Ao30 x121001_1.length co30)) (fun _ hk => hk.1), kR5 HI0, kR7 HB, kR6 HK⟩

/-! ### spec_l07Draw: function 62 -/
def spec_l07Draw.l0 : Nat → Int → List (S42) → Int → List Int → Int → Int → Option ((List (S42)) × Int × Int)
 | 0, _, _, _, _, _, _ => none
 | k + 1, x1, x5, x6, x1000, x1001, x1002 => if x6 > 0 then ((spec_l07DrawBox.f k x1000 x1001 x1002 x1).bind fun bt139 => (if x5.length < 2932031007402 then (spec_l07Draw.l0 k x1 (x5 ++ [(⟨bt139.1, bt139.2.1⟩ : S42)]) (wrap64 (x6 - 1)) x1000 bt139.2.2.1 bt139.2.2.2) else (none))) else (some (x5, x1001, x1002))
def spec_l07Draw.f (k : Nat) (s0_0 : List Int) (s0_1 : Int) (s0_2 : Int) (a1 : Int) : Option ((List (S42)) × Int × Int) := (spec_l00Src_pick.f s0_0 s0_1 s0_2 6).bind fun bt136 => (spec_l07Draw.l0 k a1 (([] : List (S42))) bt136.1 s0_0 bt136.2.1 bt136.2.2)
theorem spec_l07Draw.mono_l : ∀ k, (∀ y0 y1 y2 y3 y4 y5, LeO (spec_l07Draw.l0 k y0 y1 y2 y3 y4 y5) (spec_l07Draw.l0 (k + 1) y0 y1 y2 y3 y4 y5))
 | 0 => fun _ _ _ _ _ _ r h => by simp [spec_l07Draw.l0] at h
 | k + 1 => by
  have ih0 := spec_l07Draw.mono_l k
  ·
   intro y0 y1 y2 y3 y4 y5
   unfold spec_l07Draw.l0
   repeat' first
   | (with_reducible exact ih0 _ _ _ _ _ _)
   | (with_reducible exact spec_l07DrawBox.mono _ _ _ _ _)
   | (with_reducible exact LeO.refl _)
   | (with_reducible exact LeO.none _)
   | (with_reducible refine LeO.ite ?_ ?_)
   | (with_reducible refine LeO.bind ?_ (fun _ => ?_))
   | exact ih0 _ _ _ _ _ _
   | exact spec_l07DrawBox.mono _ _ _ _ _
   | exact LeO.none _
   | refine LeO.ite ?_ ?_
   | refine LeO.bind ?_ (fun _ => ?_)
theorem spec_l07Draw.mono : ∀ a0 a1 a2 a3 k, LeO (spec_l07Draw.f k a0 a1 a2 a3) (spec_l07Draw.f (k + 1) a0 a1 a2 a3) := by
 intro a0 a1 a2 a3 k
 have ih0 := spec_l07Draw.mono_l k
 unfold spec_l07Draw.f
 repeat' first
  | (with_reducible exact ih0 _ _ _ _ _ _)
  | (with_reducible exact spec_l07DrawBox.mono _ _ _ _ _)
  | (with_reducible exact LeO.refl _)
  | (with_reducible exact LeO.none _)
  | (with_reducible refine LeO.ite ?_ ?_)
  | (with_reducible refine LeO.bind ?_ (fun _ => ?_))
  | exact ih0 _ _ _ _ _ _
  | exact spec_l07DrawBox.mono _ _ _ _ _
  | exact LeO.none _
  | refine LeO.ite ?_ ?_
  | refine LeO.bind ?_ (fun _ => ?_)
set_option maxHeartbeats 8000000 in
set_option maxRecDepth 100000 in
theorem spec_l07Draw.calls (k : Nat) (g : Nat) (s0_0 : List Int) (s0_1 : Int) (s0_2 : Int) (a1 : Int) (r1 : List (S42)) (r2 : Int) (r3 : Int) (w0 w : World) (hI : IsS101 w0 w g s0_0 s0_1 s0_2) (hB : Below w0.heap.size w0 w) (h : spec_l07Draw.f k s0_0 s0_1 s0_2 a1 = some (r1, r2, r3)) :
 Calls Try.prog 62 #[.pointer (some ⟨g, 0, none⟩), .int .i64 a1] w fun e w' => ∃ v0_ : Value, e = .returned (v0_) ∧ Kd.S k42 42 w' w.heap.size (fun _ => True) v0_ r1 ∧ IsS101 w0 w' g s0_0 r2 r3 ∧ Below w0.heap.size w0 w' ∧ KeepBut w w' g none := by
 have HI0 := yD hI
 have HK := yD (KeepBut.refl w g none)
 have HL := yD hB.size
 clear hI
 have HW0 := yD hB.size
 have HB := yD hB
 clear hB
 have H : ((spec_l00Src_pick.f s0_0 s0_1 s0_2 6).bind fun bt136 => (spec_l07Draw.l0 k a1 (([] : List (S42))) bt136.1 s0_0 bt136.2.1 bt136.2.2)) = some (r1, r2, r3) := h
 clear h
 obtain ⟨y133, hy133⟩ : ∃ y_ : List (S42), y_ = (([] : List (S42))) := ⟨_, rfl⟩
 replace H : ((spec_l00Src_pick.f s0_0 s0_1 s0_2 6).bind fun bt136 => (spec_l07Draw.l0 k a1 y133 bt136.1 s0_0 bt136.2.1 bt136.2.2)) = some (r1, r2, r3) := by first | (rw [hy133]; with_reducible exact H) | (have H2_ := (Option.bind_some _ _).symm.trans H; rw [hy133]; with_reducible exact H2_) | (have H2_ := (Option.bind_some _ _).symm.trans H; with_reducible exact H2_) | with_reducible exact H | (rw [hy133]; exact H) | exact H
 have Ny133 := yD hy133
 clear hy133
 obtain ⟨⟨t136, t137, t138⟩, A30, H⟩ := zW_ H
 replace H : (spec_l07Draw.l0 k a1 y133 t136 s0_0 t137 t138) = some (r1, r2, r3) := H
 have A3 := yD A30
 clear A30
 have H' := yD H
 clear H; go_enter Try.func62, Try.ntmps62
 go_wp2_with (first | ((with_reducible refine gate_dst (N := 7) rfl ?_); refine Kd.S_lit k42 _ 42 ?hg (N := 7) ?hd (xs := ([] : List (S42))) (inner := []) (ok := fun _ => True) (okp := fun _ => True) ?hr ?hp (fun _ hk => hk) trivial (Below.refl _ _) (Nat.le_refl _) (by simp) ?_; (case hd => rfl); (case hg => rfl); (case hr => first | (go_simp; done) | (go_simp; rfl)); (case hp => exact (Reps.none _ _)); intro v134 w4 ho5 hb hg_ hnew_; clear hg_ hnew_; (first | rw [← Ny133.out] at ho5 | (simp only [Int.reduceToNat] at ho5; rw [← Ny133.out] at ho5)); have n0_ := yD (zG ho5 (keep_size (w := w) (g := g) (row := none) (kR4 HK))); have n1_ := yD (IsS101.below (kR2 HI0) hb); have n2_ := yD (KeepBut.trans (kR4 HK) (KeepBut.of_below hb g none) (.inl rfl)); have n3_ := yD (zC (kR3 HB) hb); clear HI0; clear HK; clear HB; have HO135 := n0_; have HI0 := n1_; have HK := n2_; have HB := n3_; clear n0_ n1_ n2_ n3_; clear hb ho5) | ((with_reducible refine gate_callee (f := 101) rfl ?_); refine goesL_ (some 9) rfl rfl Try.func101 (by kernel_rfl) rfl #[.pointer (some ⟨g, 0, none⟩), .int .i64 6] rfl (by (try simp only [zK, zL, zM]); first | done | rfl | (simp only [zN, zO]; rfl)) ?_; (with_reducible refine (spec_l00Src_pick.calls g s0_0 s0_1 s0_2 6 t136 t137 t138 w0 _ ?side1 ?side2 A3.out).mono ?_); (case side1 => exact kR2 HI0); (case side2 => exact kR3 HB); rintro e w6 ⟨rfl, hi, hb, hk⟩; refine ⟨_, rfl, ?_⟩; have n0_ := yD (Kd.S_mono (Kd.S_keep (IsS101.apartS (show IsS101 w0 _ g s0_0 s0_1 s0_2 from kR2 HI0) (by (with_reducible repeat (first | apply yS | apply yT | apply yU)); exact HO135.out) (by decide)) hk (fun _ h => h.2)) (fun _ h => h.1)); have n1_ := yD (KeepBut.trans (kR4 HK) hk (.inl rfl)); have n2_ := yD (hb); have n3_ := yD (hi); clear HO135; clear HK; clear HB; clear HI0; have HO135 := n0_; have HK := n1_; have HB := n2_; have HI0 := n3_; clear n0_ n1_ n2_ n3_; (try clear hb); (try clear hb2); (try clear hk); (try clear hi)))
 (try simp only [Act.put, zH, zI, zJ])
 go_loopg [5, 6] k (fun kq v5 v6 w' => ∃ (x5_1 : List (S42)) (x6_1 : Int) (x1001_1 : Int) (x1002_1 : Int), v6 = .int .i64 x6_1 ∧ Aside0 (spec_l07Draw.l0 kq a1 x5_1 x6_1 s0_0 x1001_1 x1002_1 = some (r1, r2, r3)) ∧ Aside0 (kq ≤ k) ∧ Aside0 (Kd.S k42 42 w' w.heap.size (fun _ => True) v5 x5_1) ∧ Aside0 (IsS101 w0 w' g s0_0 x1001_1 x1002_1) ∧ Aside0 (KeepBut w w' g none) ∧ Aside0 (Below w0.heap.size w0 w'))
 case atStart => exact ⟨(y133), (t136), (t137), (t138), (by first | rfl | (simp; done) | (simp [*]; done)), H', ⟨Nat.le_refl _⟩, ⟨by (with_reducible repeat (first | apply yS | apply yT | apply yU)); exact HO135.out⟩, ⟨kR2 HI0⟩, ⟨kR4 HK⟩, ⟨kR3 HB⟩⟩
 case round =>
  clear H'
  try clear c1; try clear p2; try clear c6
  obtain ⟨x5_1, x6_1, x1001_1, x1002_1, rfl, HA, HK1, HO_5, HI0, HK, HB⟩ := hrel
  cases gk with
  | zero => exact absurd HA.out (by simp [spec_l07Draw.l0])
  | succ k1 =>
   have H := HA.out; clear HA
   simp only [spec_l07Draw.l0] at H
   by_cases c7 : x6_1 > 0
   ·
    rw [if_pos c7] at H
    have c7b0 : decide (0 < x6_1) = true := zR c7; clear c7
    obtain ⟨⟨t139, t142, t145, t146⟩, A80, H⟩ := zW_ H
    replace H : (if x5_1.length < 2932031007402 then (spec_l07Draw.l0 k1 a1 (x5_1 ++ [(⟨t139, t142⟩ : S42)]) (wrap64 (x6_1 - 1)) s0_0 t145 t146) else (none)) = some (r1, r2, r3) := H
    have A8 := yD A80
    clear A80
    by_cases c9 : x5_1.length < 2932031007402
    ·
     rw [if_pos c9] at H
     have LMc9 := yD c9
     clear c9
     obtain ⟨y147, hy147⟩ : ∃ y_ : List (S42), y_ = (x5_1 ++ [(⟨t139, t142⟩ : S42)]) := ⟨_, rfl⟩
     replace H : (spec_l07Draw.l0 k1 a1 y147 (wrap64 (x6_1 - 1)) s0_0 t145 t146) = some (r1, r2, r3) := by first | (rw [hy147]; with_reducible exact H) | (have H2_ := (Option.bind_some _ _).symm.trans H; rw [hy147]; with_reducible exact H2_) | (have H2_ := (Option.bind_some _ _).symm.trans H; with_reducible exact H2_) | with_reducible exact H | (rw [hy147]; exact H) | exact H
     have Ny147 := yD hy147
     clear hy147
     have H' := yD H
     clear H
     go_wp2_with (first | ((with_reducible refine gate_callee (f := 102) rfl ?_); refine goesL_ (some 17) rfl rfl Try.func102 (by kernel_rfl) rfl #[.pointer (some ⟨g, 0, none⟩), .int .i64 a1] rfl (by (try simp only [zK, zL, zM]); first | done | rfl | (simp only [zN, zO]; rfl)) ?_; (with_reducible refine (spec_l07DrawBox.calls k1 g s0_0 x1001_1 x1002_1 a1 t139 t142 t145 t146 w0 _ ?side1 ?side2 A8.out).mono ?_); (case side1 => exact kR2 HI0); (case side2 => exact kR3 HB); rintro e w10 ⟨v140, v143, rfl, ho0, ho1, hi, hb, hk⟩; refine ⟨_, rfl, ?_⟩; have n0_ := yD (Kd.S_mono (Kd.S_told (Kd.S_told (Kd.S_oldK (IsS101.apartS (show IsS101 w0 _ g s0_0 x1001_1 x1002_1 from kR2 HI0) (by (with_reducible repeat (first | apply yS | apply yT | apply yU)); exact HO_5.out) (by decide)) hk) (yH ho0)) (yH ho1)) (fun _ h_ => h_.1)); have n1_ := yD (yZ ho0 (keep_size (w := w) (g := g) (row := none) (kR4 HK))); have n2_ := yD (yZ ho1 (keep_size (w := w) (g := g) (row := none) (kR4 HK))); have n3_ := yD (KeepBut.trans (kR4 HK) hk (.inl rfl)); have n4_ := yD (hb); have n5_ := yD (hi); clear HO_5; clear HK; clear HB; clear HI0; have HO_5 := n0_; have HO141 := n1_; have HO144 := n2_; have HK := n3_; have HB := n4_; have HI0 := n5_; clear n0_ n1_ n2_ n3_ n4_ n5_; (try clear hb); (try clear hb2); (try clear hk); (try clear hi); (try clear ho0); (try clear ho1); obtain ⟨Ao12, co12, eo12⟩ := Kd.R_slice HO141.out; subst eo12; obtain ⟨Ao13, co13, eo13⟩ := Kd.R_slice HO144.out; subst eo13) | ((with_reducible refine gate_builtin (b := .append) (xs := #[.tmp 14, .tmp 18]) rfl ?_); at_builtin; refine Kd.S_append k42 w.heap.size rfl (.tmp 14) (.tmp 18) 24 42 (.agg #[(.slice none 0 0), (.slice none 0 0)]) 48 rfl Try.underlying24 info42 rfl (by decide) (by omega) u5 x5_1 (⟨t139, t142⟩ : S42) [.slice Ao12 t139.length co12, .slice Ao13 t142.length co13] (fun _ => True) (fun k_ => some k_ = (.slice Ao12 t139.length co12 : Value).ownBlock ∨ some k_ = (.slice Ao13 t142.length co13 : Value).ownBlock) rfl rfl ?aP (fun k_ hk_ => hk_.elim (fun h_ => ((zF (ok' := fun k_ => ((fun _ => True)) k_ ∧ some k_ ≠ (u5 : Value).ownBlock) (Kd.R_apart' (HO141.out) (Kd.S_typed HO_5.out) (by decide)) (fun k_ hk => ⟨trivial, hk.2⟩))).1 k_ h_.symm) (fun h_ => ((zF (ok' := fun k_ => ((fun _ => True)) k_ ∧ some k_ ≠ (u5 : Value).ownBlock) (Kd.R_apart' (HO144.out) (Kd.S_typed HO_5.out) (by decide)) (fun k_ hk => ⟨trivial, hk.2⟩))).1 k_ h_.symm)) ?aF ?aO (Below.refl _ _) ?aS ?aL ?_; (case aP => exact k42_mkM _ _ _ (⟨t139, t142⟩ : S42) (zF (Kd.R_tight rfl (zF (ok' := fun k_ => ((fun _ => True)) k_ ∧ some k_ ≠ (u5 : Value).ownBlock) (Kd.R_apart' (HO141.out) (Kd.S_typed HO_5.out) (by decide)) (fun k_ hk => ⟨trivial, hk.2⟩))) (fun _ h_ => Or.inl h_)) (zF (Kd.R_tight rfl (zF (ok' := fun k_ => ((fun _ => True)) k_ ∧ some k_ ≠ (u5 : Value).ownBlock) (Kd.R_apart' (HO144.out) (Kd.S_typed HO_5.out) (by decide)) (fun k_ hk => ⟨trivial, hk.2⟩))) (fun _ h_ => Or.inr (h_)))); (case aF => exact (fun _ _ => trivial)); (case aO => exact (by (with_reducible repeat (first | apply yS | apply yT | apply yU)); exact Kd.S_mono HO_5.out (fun k_ hk => ⟨trivial, fun e_ => e_.elim (fun h_ => hk.1.2 h_) (fun h_ => hk.2 h_)⟩))); (case aS => exact (keep_size (w := w) (g := g) (row := none) (kR4 HK))); (case aL => have := LMc9.out; omega); intro v148 w11 ho hb hg hat; rw [← Ny147.out] at ho; have n0_ := yD (IsS101.grown (kR2 HI0) hg (IsS101.own_neS HI0.out HO_5.out (by decide))); have n1_ := yD (below_weaken (kR3 HB) HL.out hb); have n2_ := yD (KeepBut.trans (kR4 HK) (KeepBut.of_grown hg g) (Kd.S_base2 HO_5.out)); have n3_ := yD (ho); clear HI0; clear HB; clear HK; clear HO_5; clear HO141; clear HO144; have HI0 := n0_; have HB := n1_; have HK := n2_; have HO149 := n3_; clear n0_ n1_ n2_ n3_; clear ho hb hg hat))
     go_roundg k1
     case measure => have := HK1.out; omega
     case rel => exact ⟨(y147), (wrap64 (x6_1 - 1)), (t145), (t146), (by first | rfl | (simp; done) | (simp [*]; done)), H', ⟨by have := HK1.out; omega⟩, ⟨by (with_reducible repeat (first | apply yS | apply yT | apply yU)); exact HO149.out⟩, ⟨kR2 HI0⟩, ⟨kR4 HK⟩, ⟨kR3 HB⟩⟩
    · rw [if_neg c9] at H
      exact absurd H (by simp)
   ·
    rw [if_neg c7] at H
    have c7b0 : decide (0 < x6_1) = false := zS c7; clear c7
    simp only [Option.some.injEq, Prod.mk.injEq] at H
    obtain ⟨rfl, rfl, rfl⟩ := H
    go_wp2
    go_ret
    exact ⟨_, by first | rfl | (simp <;> rfl) | (simp [*] <;> rfl), by (with_reducible repeat (first | apply yS | apply yT | apply yU)); exact HO_5.out, kR2 HI0, kR3 HB, kR4 HK⟩

/-! ### spec_E8Boxes: function 26 -/
def spec_E8Boxes.f (k : Nat) (l0 : List Int) : Option (Int × (List (S42)) × (List (S42))) := (spec_l00From.f l0).bind fun bt150 => ((spec_l07DrawRank.f bt150.1 bt150.2.1 bt150.2.2).bind fun bt154 => ((spec_l07Draw.f k bt150.1 bt154.2.1 bt154.2.2 bt154.1).bind fun bt157 => ((spec_l07Draw.f k bt150.1 bt157.2.1 bt157.2.2 bt154.1).bind fun bt162 => (some (bt154.1, bt157.1, bt162.1)))))
theorem spec_E8Boxes.mono : ∀ a0 k, LeO (spec_E8Boxes.f k a0) (spec_E8Boxes.f (k + 1) a0) := by
 intro a0 k
 unfold spec_E8Boxes.f
 repeat' first
  | (with_reducible exact spec_l07Draw.mono _ _ _ _ _)
  | (with_reducible exact LeO.refl _)
  | (with_reducible exact LeO.none _)
  | (with_reducible refine LeO.ite ?_ ?_)
  | (with_reducible refine LeO.bind ?_ (fun _ => ?_))
  | exact spec_l07Draw.mono _ _ _ _ _
  | exact LeO.none _
  | refine LeO.ite ?_ ?_
  | refine LeO.bind ?_ (fun _ => ?_)
set_option maxHeartbeats 8000000 in
set_option maxRecDepth 100000 in
theorem spec_E8Boxes.calls (k : Nat) (A0 : Option Addr) (c0 : Nat) (l0 : List Int) (r1 : Int) (r2 : List (S42)) (r3 : List (S42)) (w : World) (hr0 : Kd.C (Kd.int .u8) w A0 l0.length l0) (hc0 : l0.length ≤ c0) (h : spec_E8Boxes.f k l0 = some (r1, r2, r3)) :
 Calls Try.prog 26 #[.slice A0 l0.length c0] w fun e w' => ∃ v1_ v2_ : Value, e = .returned (.tuple #[.int .i64 r1, v1_, v2_]) ∧ Kd.S k42 42 w' w.heap.size (fun k_ => some k_ ≠ (v2_ : Value).ownBlock) v1_ r2 ∧ Kd.S k42 42 w' w.heap.size (fun k_ => some k_ ≠ (v1_ : Value).ownBlock) v2_ r3 ∧ Below w.heap.size w w' := by
 have HR0 := yD hr0
 have HC0 := yD hc0
 clear hr0 hc0
 have HB := yD (Below.refl w.heap.size w)
 have H : ((spec_l00From.f l0).bind fun bt150 => ((spec_l07DrawRank.f bt150.1 bt150.2.1 bt150.2.2).bind fun bt154 => ((spec_l07Draw.f k bt150.1 bt154.2.1 bt154.2.2 bt154.1).bind fun bt157 => ((spec_l07Draw.f k bt150.1 bt157.2.1 bt157.2.2 bt154.1).bind fun bt162 => (some (bt154.1, bt157.1, bt162.1)))))) = some (r1, r2, r3) := h
 clear h
 obtain ⟨⟨t150, t151, t152⟩, A20, H⟩ := zW_ H
 replace H : ((spec_l07DrawRank.f t150 t151 t152).bind fun bt154 => ((spec_l07Draw.f k t150 bt154.2.1 bt154.2.2 bt154.1).bind fun bt157 => ((spec_l07Draw.f k t150 bt157.2.1 bt157.2.2 bt154.1).bind fun bt162 => (some (bt154.1, bt157.1, bt162.1))))) = some (r1, r2, r3) := H
 have A2 := yD A20
 clear A20
 obtain ⟨⟨t154, t155, t156⟩, A30, H⟩ := zW_ H
 replace H : ((spec_l07Draw.f k t150 t155 t156 t154).bind fun bt157 => ((spec_l07Draw.f k t150 bt157.2.1 bt157.2.2 t154).bind fun bt162 => (some (t154, bt157.1, bt162.1)))) = some (r1, r2, r3) := H
 have A3 := yD A30
 clear A30
 obtain ⟨⟨t157, t160, t161⟩, A40, H⟩ := zW_ H
 replace H : ((spec_l07Draw.f k t150 t160 t161 t154).bind fun bt162 => (some (t154, t157, bt162.1))) = some (r1, r2, r3) := H
 have A4 := yD A40
 clear A40
 obtain ⟨⟨t162, t165, t166⟩, A50, H⟩ := zW_ H
 replace H : (some (t154, t157, t162)) = some (r1, r2, r3) := H
 have A5 := yD A50
 clear A50
 simp only [Option.some.injEq, Prod.mk.injEq] at H
 obtain ⟨rfl, rfl, rfl⟩ := H
 go_enter Try.func26, Try.ntmps26
 go_wp2_with (first | ((with_reducible refine gate_callee (f := 60) rfl ?_); refine goesL_ (some 10) rfl rfl Try.func60 (by kernel_rfl) rfl #[.slice A0 l0.length c0] rfl (by (try simp only [zK, zL, zM]); first | done | rfl | (simp only [zN, zO]; rfl)) ?_; (with_reducible refine (spec_l00From.calls _ _ l0 t150 t151 t152 w _ ?side1 ?side2 ?side3 A2.out).mono ?_); (case side1 => exact kR0 HB); (case side2 => exact HR0.out); (case side3 => exact HC0.out); rintro e w6 ⟨g153, rfl, hi, hb, hb2⟩; refine ⟨_, rfl, ?_⟩; have n0_ := yD (hb); have n1_ := yD (hi); clear HB; have HB := n0_; have HI153 := n1_; clear n0_ n1_; (try clear hb); (try clear hb2); (try clear hk); (try clear hi)) | ((with_reducible refine gate_callee (f := 61) rfl ?_); refine goesL_ (some 12) rfl rfl Try.func61 (by kernel_rfl) rfl #[.pointer (some ⟨g153, 0, none⟩)] rfl (by (try simp only [zK, zL, zM]); first | done | rfl | (simp only [zN, zO]; rfl)) ?_; (with_reducible refine (spec_l07DrawRank.calls g153 t150 t151 t152 t154 t155 t156 w _ ?side1 ?side2 A3.out).mono ?_); (case side1 => exact kR2 HI153); (case side2 => exact kR3 HB); rintro e w7 ⟨rfl, hi, hb, hk⟩; refine ⟨_, rfl, ?_⟩; have n0_ := yD (hb); have n1_ := yD (hi); clear HB; clear HI153; have HB := n0_; have HI153 := n1_; clear n0_ n1_; (try clear hb); (try clear hb2); (try clear hk); (try clear hi)) | ((with_reducible refine gate_callee (f := 62) rfl ?_); refine goesL_ (some 15) rfl rfl Try.func62 (by kernel_rfl) rfl #[.pointer (some ⟨g153, 0, none⟩), .int .i64 t154] rfl (by (try simp only [zK, zL, zM]); first | done | rfl | (simp only [zN, zO]; rfl)) ?_; (with_reducible refine (spec_l07Draw.calls k g153 t150 t155 t156 t154 t157 t160 t161 w _ ?side1 ?side2 A4.out).mono ?_); (case side1 => exact kR2 HI153); (case side2 => exact kR3 HB); rintro e w8 ⟨v158, rfl, ho0, hi, hb, hk⟩; refine ⟨_, rfl, ?_⟩; have n0_ := yD (zG ho0 (below_size (kR3 HB))); have n1_ := yD (hb); have n2_ := yD (hi); clear HB; clear HI153; have HO159 := n0_; have HB := n1_; have HI153 := n2_; clear n0_ n1_ n2_; (try clear hb); (try clear hb2); (try clear hk); (try clear hi); (try clear ho0)) | ((with_reducible refine gate_callee (f := 62) rfl ?_); refine goesL_ (some 18) rfl rfl Try.func62 (by kernel_rfl) rfl #[.pointer (some ⟨g153, 0, none⟩), .int .i64 t154] rfl (by (try simp only [zK, zL, zM]); first | done | rfl | (simp only [zN, zO]; rfl)) ?_; (with_reducible refine (spec_l07Draw.calls k g153 t150 t160 t161 t154 t162 t165 t166 w _ ?side1 ?side2 A5.out).mono ?_); (case side1 => exact kR2 HI153); (case side2 => exact kR3 HB); rintro e w9 ⟨v163, rfl, ho0, hi, hb, hk⟩; refine ⟨_, rfl, ?_⟩; have n0_ := yD (Kd.S_mono (Kd.S_told (Kd.S_oldK (IsS101.apartS (show IsS101 w _ g153 t150 t160 t161 from kR2 HI153) (by (with_reducible repeat (first | apply yS | apply yT | apply yU)); exact HO159.out) (by decide)) hk) (Kd.S_base ho0)) (fun _ h_ => h_.1)); have n1_ := yD (zG (zD ho0 (Kd.S_lt (by (with_reducible repeat (first | apply yS | apply yT | apply yU)); exact HO159.out))) (below_size (kR3 HB))); have n2_ := yD (hb); have n3_ := yD (hi); clear HO159; clear HB; clear HI153; have HO159 := n0_; have HO164 := n1_; have HB := n2_; have HI153 := n3_; clear n0_ n1_ n2_ n3_; (try clear hb); (try clear hb2); (try clear hk); (try clear hi); (try clear ho0)))
 go_ret3
 exact ⟨_, _, by first | rfl | (simp <;> rfl) | (simp [*] <;> rfl), by (with_reducible repeat (first | apply yS | apply yT | apply yU)); exact Kd.S_mono HO159.out (fun _ hk => hk.2), by (with_reducible repeat (first | apply yS | apply yT | apply yU)); exact Kd.S_mono HO164.out (fun _ hk => hk.2), kR3 HB⟩

/-! ### impl_ValidBox: function 104 -/
mutual
def impl_ValidBox.j0 : Nat → Bool → List Int → List Int → Option (Bool)
 | 0, _, _, _ => none
 | k + 1, x17, x168000, x168001 => if x17 = true then (some false) else (impl_ValidBox.l0 k x168000 (x168000.length : Int) 0 x168000 x168001)
def impl_ValidBox.l0 : Nat → List Int → Int → Int → List Int → List Int → Option (Bool)
 | 0, _, _, _, _, _ => none
 | k + 1, x19, x20, x21, x168000, x168001 => if x21 < x20 then (if 0 ≤ x21 then (if x21 < (x19.length : Int) then (if (rd x19 x21) < 0 then (some false) else (if x21 < (x168001.length : Int) then (if (rd x19 x21) ≥ (rd x168001 x21) then (some false) else (if (rd x168001 x21) > 40 then (some false) else (impl_ValidBox.l0 k x19 x20 (wrap64 (x21 + 1)) x168000 x168001))) else (none))) else (none)) else (none)) else (some true)
end
def impl_ValidBox.f (k : Nat) (l0_0 : List Int) (l0_1 : List Int) : Option (Bool) := if (l0_0.length : Int) = (l0_1.length : Int) then (impl_ValidBox.j0 k (decide ((l0_0.length : Int) > 3)) l0_0 l0_1) else (impl_ValidBox.j0 k true l0_0 l0_1)
theorem impl_ValidBox.mono_l : ∀ k, (∀ y0 y1 y2, LeO (impl_ValidBox.j0 k y0 y1 y2) (impl_ValidBox.j0 (k + 1) y0 y1 y2)) ∧ (∀ y0 y1 y2 y3 y4, LeO (impl_ValidBox.l0 k y0 y1 y2 y3 y4) (impl_ValidBox.l0 (k + 1) y0 y1 y2 y3 y4))
 | 0 => ⟨fun _ _ _ r h => by simp [impl_ValidBox.j0] at h, fun _ _ _ _ _ r h => by simp [impl_ValidBox.l0] at h⟩
 | k + 1 => by
  obtain ⟨ih0, ih1⟩ := impl_ValidBox.mono_l k
  refine ⟨?_, ?_⟩
  ·
   intro y0 y1 y2
   unfold impl_ValidBox.j0
   repeat' first
   | (with_reducible exact ih0 _ _ _)
   | (with_reducible exact ih1 _ _ _ _ _)
   | (with_reducible exact LeO.refl _)
   | (with_reducible exact LeO.none _)
   | (with_reducible refine LeO.ite ?_ ?_)
   | (with_reducible refine LeO.bind ?_ (fun _ => ?_))
   | exact ih0 _ _ _
   | exact ih1 _ _ _ _ _
   | exact LeO.none _
   | refine LeO.ite ?_ ?_
   | refine LeO.bind ?_ (fun _ => ?_)
  ·
   intro y0 y1 y2 y3 y4
   unfold impl_ValidBox.l0
   repeat' first
   | (with_reducible exact ih0 _ _ _)
   | (with_reducible exact ih1 _ _ _ _ _)
   | (with_reducible exact LeO.refl _)
   | (with_reducible exact LeO.none _)
   | (with_reducible refine LeO.ite ?_ ?_)
   | (with_reducible refine LeO.bind ?_ (fun _ => ?_))
   | exact ih0 _ _ _
   | exact ih1 _ _ _ _ _
   | exact LeO.none _
   | refine LeO.ite ?_ ?_
   | refine LeO.bind ?_ (fun _ => ?_)
theorem impl_ValidBox.mono : ∀ a0 a1 k, LeO (impl_ValidBox.f k a0 a1) (impl_ValidBox.f (k + 1) a0 a1) := by
 intro a0 a1 k
 obtain ⟨ih0, ih1⟩ := impl_ValidBox.mono_l k
 unfold impl_ValidBox.f
 repeat' first
  | (with_reducible exact ih0 _ _ _)
  | (with_reducible exact ih1 _ _ _ _ _)
  | (with_reducible exact LeO.refl _)
  | (with_reducible exact LeO.none _)
  | (with_reducible refine LeO.ite ?_ ?_)
  | (with_reducible refine LeO.bind ?_ (fun _ => ?_))
  | exact ih0 _ _ _
  | exact ih1 _ _ _ _ _
  | exact LeO.none _
  | refine LeO.ite ?_ ?_
  | refine LeO.bind ?_ (fun _ => ?_)
set_option maxHeartbeats 8000000 in
set_option maxRecDepth 100000 in
theorem impl_ValidBox.calls (k : Nat) (A0_0 : Option Addr) (c0_0 : Nat) (l0_0 : List Int) (A0_1 : Option Addr) (c0_1 : Nat) (l0_1 : List Int) (r : Bool) (w : World) (hr0_0 : Kd.C (Kd.int .i64) w A0_0 l0_0.length l0_0) (hc0_0 : l0_0.length ≤ c0_0) (hr0_1 : Kd.C (Kd.int .i64) w A0_1 l0_1.length l0_1) (hc0_1 : l0_1.length ≤ c0_1) (h : impl_ValidBox.f k l0_0 l0_1 = some r) :
 Calls Try.prog 104 #[.agg #[.slice A0_0 l0_0.length c0_0, .slice A0_1 l0_1.length c0_1]] w fun e w' => e = .returned (.bool r) ∧ Below w.heap.size w w' := by
 have hu42 := Try.underlying42
 have HR0_0 := yD hr0_0
 have HC0_0 := yD hc0_0
 clear hr0_0 hc0_0
 have HR0_1 := yD hr0_1
 have HC0_1 := yD hc0_1
 clear hr0_1 hc0_1
 have HB := yD (Below.refl w.heap.size w)
 have H : (if (l0_0.length : Int) = (l0_1.length : Int) then (impl_ValidBox.j0 k (decide ((l0_0.length : Int) > 3)) l0_0 l0_1) else (impl_ValidBox.j0 k true l0_0 l0_1)) = some r := h
 clear h
 have HC2 := yD H
 clear H; go_enter Try.func104, Try.ntmps104
 go_upto_region 1 with (first | ((with_reducible refine gate_dst (N := 1) rfl ?_); (try (refine gate_guard (by rfl) ?_; dsimp only)); refine box_event ?hg (N := 1) ?hd (cs := #[.slice A0_0 l0_0.length c0_0, .slice A0_1 l0_1.length c0_1]) (t := 42) ?hr ?_; (case hd => rfl); (case hg => rfl); (case hr => first | (go_simp; done) | (go_simp; rfl)); intro gb167 hg w3 hbox hb; have n0_ := yD (zC (kB HB) hb); have n1_ := yD (hbox); have n2_ := yD ((by rw [hg]; exact (below_size (kB HB)) : w.heap.size ≤ gb167)); have n3_ := yD ((by rw [hg]; exact (below_size (kB HB)) : w.heap.size ≤ gb167)); clear HB; have HB := n0_; have BK167 := n1_; have GW167 := n2_; have GE167 := n3_; clear n0_ n1_ n2_ n3_; clear hb hbox hg))
 (try simp only [Act.put, zH, zI, zJ])
 go_cut [17] (fun v17 wc => ∃ (kq : Nat) (x17_1 : Bool), v17 = .bool x17_1 ∧ Aside0 (impl_ValidBox.j0 kq x17_1 l0_0 l0_1 = some r) ∧ Aside0 (kq ≤ k) ∧ Aside0 (wc.heap[gb167]? = some (.cells #[(.slice A0_0 l0_0.length c0_0), (.slice A0_1 l0_1.length c0_1)] 42 (0, 0))) ∧ Aside0 (Below w.heap.size w wc))
 case first =>
  have H := HC2.out; clear HC2
  by_cases c4 : (l0_0.length : Int) = (l0_1.length : Int)
  ·
   rw [if_pos c4] at H
   have c4b0 : ((l0_0.length : Int) == (l0_1.length : Int)) = true := beq_iff_eq.mpr c4
   have c4b1 : ((l0_0.length : Int) != (l0_1.length : Int)) = false := bne_eq_false_iff_eq.mpr c4
   have c4b2 : (l0_0.length == l0_1.length) = true := by first | simpa using c4 | (simp at c4 ⊢; omega)
   clear c4
   (first | rw [c4b0] | (simp only [i64_w, i32_w]; rw [c4b0]) | (simp only [bne] at c4b0; rw [c4b0]) | skip)
   have H' := yD H
   clear H
   obtain ⟨hcz5_0, hcz5_1⟩ := cz2 BK167.out
   obtain ⟨hfz5_0, hfz5_1⟩ := fz2 BK167.out
   go_wp2
   go_meet
   case rel => exact ⟨_, (decide ((l0_0.length : Int) > 3)), (by first | rfl | (simp; done) | (simp [*]; done)), H', ⟨by first | omega | exact Nat.le_refl _⟩, ⟨by (with_reducible repeat (first | refine yM ?_ _ | refine yO ?_ | refine yN ?_ _)); exact BK167.out⟩, ⟨kR1 HB⟩⟩
  ·
   rw [if_neg c4] at H
   have c4b0 : ((l0_0.length : Int) == (l0_1.length : Int)) = false := beq_eq_false_iff_ne.mpr c4
   have c4b1 : ((l0_0.length : Int) != (l0_1.length : Int)) = true := bne_iff_ne.mpr c4
   have c4b2 : (l0_0.length == l0_1.length) = false := by first | simpa using c4 | (simp at c4 ⊢; omega)
   (first | rw [c4b0] | (simp only [i64_w, i32_w]; rw [c4b0]) | (simp only [bne] at c4b0; rw [c4b0]) | skip)
   have H' := yD H
   clear H
   obtain ⟨hcz6_0, hcz6_1⟩ := cz2 BK167.out
   obtain ⟨hfz6_0, hfz6_1⟩ := fz2 BK167.out
   go_wp2
   go_meet
   case rel => exact ⟨_, (true), (by first | rfl | (simp; done) | (simp [*]; done)), H', ⟨by first | omega | exact Nat.le_refl _⟩, ⟨by (with_reducible repeat (first | refine yM ?_ _ | refine yO ?_ | refine yN ?_ _)); exact BK167.out⟩, ⟨kR1 HB⟩⟩
 case rest =>
  clear HC2; try clear c1; try clear p2; try clear c4; try clear c4b0; try clear c4b1; try clear c4b2; try clear hcz5_0; try clear hcz5_1; try clear hcz6_0; try clear hcz6_1; try clear hfz5_0; try clear hfz5_1; try clear hfz6_0; try clear hfz6_1
  obtain ⟨kq, x17_1, rfl, HA, HJ1, BK167, HB⟩ := hcut
  cases kq with
  | zero => exact absurd HA.out (by simp [impl_ValidBox.j0])
  | succ kj1 =>
   have H := HA.out; clear HA
   simp only [impl_ValidBox.j0] at H
   by_cases c7 : x17_1 = true
   · subst c7
     have H1 : (some false) = some r := by rw [if_pos rfl] at H; exact H
     clear H; have H := H1; clear H1; obtain rfl := Option.some.inj H
     go_wp2
     go_ret
     exact ⟨by first | rfl | (simp <;> rfl) | (simp [*] <;> rfl), kR1 HB⟩
   ·
    replace c7 := Bool.eq_false_iff.mpr c7
    subst c7
    have H1 : (impl_ValidBox.l0 kj1 l0_0 (l0_0.length : Int) 0 l0_0 l0_1) = some r := by rw [if_neg (show ¬ (false = true) by decide)] at H; exact H
    clear H; have H := H1; clear H1
    have H' := yD H
    clear H
    obtain ⟨hcz8_0, hcz8_1⟩ := cz2 BK167.out
    obtain ⟨hfz8_0, hfz8_1⟩ := fz2 BK167.out
    go_wp2
    go_loopg [21] kj1 (fun kq v21 w' => ∃ (x21_2 : Int), v21 = .int .i64 x21_2 ∧ Aside0 (impl_ValidBox.l0 kq l0_0 (l0_0.length : Int) x21_2 l0_0 l0_1 = some r) ∧ Aside0 (kq ≤ kj1) ∧ Aside0 (w'.heap[gb167]? = some (.cells #[(.slice A0_0 l0_0.length c0_0), (.slice A0_1 l0_1.length c0_1)] 42 (0, 0))) ∧ Aside0 (Below w.heap.size w w'))
    case atStart => exact ⟨(0), (by first | rfl | (simp; done) | (simp [*]; done)), H', ⟨Nat.le_refl _⟩, ⟨by (with_reducible repeat (first | refine yM ?_ _ | refine yO ?_ | refine yN ?_ _)); exact BK167.out⟩, ⟨kR1 HB⟩⟩
    case round =>
     clear H'
     try clear c1; try clear p2; try clear c4; try clear c4b0; try clear c4b1; try clear c4b2; try clear c7; try clear hcz5_0; try clear hcz5_1; try clear hcz6_0; try clear hcz6_1; try clear hcz8_0; try clear hcz8_1; try clear hfz5_0; try clear hfz5_1; try clear hfz6_0; try clear hfz6_1; try clear hfz8_0; try clear hfz8_1; try clear p2
     obtain ⟨x21_2, rfl, HA, HK2, BK167, HB⟩ := hrel
     cases gk with
     | zero => exact absurd HA.out (by simp [impl_ValidBox.l0])
     | succ k2 =>
      have H := HA.out; clear HA
      simp only [impl_ValidBox.l0] at H
      by_cases c9 : x21_2 < (l0_0.length : Int)
      ·
       rw [if_pos c9] at H
       have c9b0 : decide (x21_2 < (l0_0.length : Int)) = true := zR c9; clear c9
       by_cases c10 : 0 ≤ x21_2
       ·
        rw [if_pos c10] at H
        have c10b0 : decide (0 ≤ x21_2) = true := zR c10; clear c10
        by_cases c11 : x21_2 < (l0_0.length : Int)
        ·
         rw [if_pos c11] at H
         have c11b0 : decide (x21_2 < (l0_0.length : Int)) = true := zR c11; clear c11
         by_cases c12 : (rd l0_0 x21_2) < 0
         · rw [if_pos c12] at H
           have c12b0 : decide ((rd l0_0 x21_2) < 0) = true := zR c12; clear c12; obtain rfl := Option.some.inj H
           have p168 : 0 ≤ (x21_2 : Int) := zP (by assumption)
           have q168 : x21_2 < (l0_0.length : Int) := zP (by assumption)
           obtain ⟨ad168, e168, hx168_0⟩ := Kd.at_int HR0_0.out x21_2 p168 q168
           cases e168
           replace hx168_0 := (HB.out.cell (zQ w _ hx168_0)).trans hx168_0
           replace p168 := eq_true p168; replace q168 := eq_true q168
           go_wp2
           go_ret
           exact ⟨by first | rfl | (simp <;> rfl) | (simp [*] <;> rfl), kR1 HB⟩
         ·
          rw [if_neg c12] at H
          have c12b0 : decide ((rd l0_0 x21_2) < 0) = false := zS c12; clear c12
          by_cases c13 : x21_2 < (l0_1.length : Int)
          ·
           rw [if_pos c13] at H
           have c13b0 : decide (x21_2 < (l0_1.length : Int)) = true := zR c13; clear c13
           by_cases c14 : (rd l0_0 x21_2) ≥ (rd l0_1 x21_2)
           ·
            rw [if_pos c14] at H
            have c14b0 : decide ((rd l0_1 x21_2) ≤ (rd l0_0 x21_2)) = true := zR c14; clear c14; obtain rfl := Option.some.inj H
            have p168 : 0 ≤ (x21_2 : Int) := zP (by assumption)
            have q168 : x21_2 < (l0_0.length : Int) := zP (by assumption)
            obtain ⟨ad168, e168, hx168_0⟩ := Kd.at_int HR0_0.out x21_2 p168 q168
            cases e168
            replace hx168_0 := (HB.out.cell (zQ w _ hx168_0)).trans hx168_0
            replace p168 := eq_true p168; replace q168 := eq_true q168
            obtain ⟨hcz15_0, hcz15_1⟩ := cz2 BK167.out
            obtain ⟨hfz15_0, hfz15_1⟩ := fz2 BK167.out
            have p169 : 0 ≤ (x21_2 : Int) := zP (by assumption)
            have q169 : x21_2 < (l0_1.length : Int) := zP (by assumption)
            obtain ⟨ad169, e169, hx169_0⟩ := Kd.at_int HR0_1.out x21_2 p169 q169
            cases e169
            replace hx169_0 := (HB.out.cell (zQ w _ hx169_0)).trans hx169_0
            replace p169 := eq_true p169; replace q169 := eq_true q169
            go_wp2
            go_ret
            exact ⟨by first | rfl | (simp <;> rfl) | (simp [*] <;> rfl), kR1 HB⟩
           ·
            rw [if_neg c14] at H
            have c14b0 : decide ((rd l0_1 x21_2) ≤ (rd l0_0 x21_2)) = false := zS c14; clear c14
            by_cases c16 : (rd l0_1 x21_2) > 40
            ·
             rw [if_pos c16] at H
             have c16b0 : decide (40 < (rd l0_1 x21_2)) = true := zR c16; clear c16; obtain rfl := Option.some.inj H
             have p168 : 0 ≤ (x21_2 : Int) := zP (by assumption)
             have q168 : x21_2 < (l0_0.length : Int) := zP (by assumption)
             obtain ⟨ad168, e168, hx168_0⟩ := Kd.at_int HR0_0.out x21_2 p168 q168
             cases e168
             replace hx168_0 := (HB.out.cell (zQ w _ hx168_0)).trans hx168_0
             replace p168 := eq_true p168; replace q168 := eq_true q168
             obtain ⟨hcz17_0, hcz17_1⟩ := cz2 BK167.out
             obtain ⟨hfz17_0, hfz17_1⟩ := fz2 BK167.out
             have p169 : 0 ≤ (x21_2 : Int) := zP (by assumption)
             have q169 : x21_2 < (l0_1.length : Int) := zP (by assumption)
             obtain ⟨ad169, e169, hx169_0⟩ := Kd.at_int HR0_1.out x21_2 p169 q169
             cases e169
             replace hx169_0 := (HB.out.cell (zQ w _ hx169_0)).trans hx169_0
             replace p169 := eq_true p169; replace q169 := eq_true q169
             have p170 : 0 ≤ (x21_2 : Int) := zP (by assumption)
             have q170 : x21_2 < (l0_1.length : Int) := zP (by assumption)
             obtain ⟨ad170, e170, hx170_0⟩ := Kd.at_int HR0_1.out x21_2 p170 q170
             obtain rfl : ad169 = ad170 := (by injection e170)
             replace hx170_0 := (HB.out.cell (zQ w _ hx170_0)).trans hx170_0
             replace p170 := eq_true p170; replace q170 := eq_true q170
             go_wp2
             go_ret
             exact ⟨by first | rfl | (simp <;> rfl) | (simp [*] <;> rfl), kR1 HB⟩
            ·
             rw [if_neg c16] at H
             have c16b0 : decide (40 < (rd l0_1 x21_2)) = false := zS c16; clear c16
             have H' := yD H
             clear H
             have p168 : 0 ≤ (x21_2 : Int) := zP (by assumption)
             have q168 : x21_2 < (l0_0.length : Int) := zP (by assumption)
             obtain ⟨ad168, e168, hx168_0⟩ := Kd.at_int HR0_0.out x21_2 p168 q168
             cases e168
             replace hx168_0 := (HB.out.cell (zQ w _ hx168_0)).trans hx168_0
             replace p168 := eq_true p168; replace q168 := eq_true q168
             obtain ⟨hcz18_0, hcz18_1⟩ := cz2 BK167.out
             obtain ⟨hfz18_0, hfz18_1⟩ := fz2 BK167.out
             have p169 : 0 ≤ (x21_2 : Int) := zP (by assumption)
             have q169 : x21_2 < (l0_1.length : Int) := zP (by assumption)
             obtain ⟨ad169, e169, hx169_0⟩ := Kd.at_int HR0_1.out x21_2 p169 q169
             cases e169
             replace hx169_0 := (HB.out.cell (zQ w _ hx169_0)).trans hx169_0
             replace p169 := eq_true p169; replace q169 := eq_true q169
             have p170 : 0 ≤ (x21_2 : Int) := zP (by assumption)
             have q170 : x21_2 < (l0_1.length : Int) := zP (by assumption)
             obtain ⟨ad170, e170, hx170_0⟩ := Kd.at_int HR0_1.out x21_2 p170 q170
             obtain rfl : ad169 = ad170 := (by injection e170)
             replace hx170_0 := (HB.out.cell (zQ w _ hx170_0)).trans hx170_0
             replace p170 := eq_true p170; replace q170 := eq_true q170
             go_wp2
             go_roundg k2
             case measure => have := HJ1.out; have := HK2.out; omega
             case rel => exact ⟨(wrap64 (x21_2 + 1)), (by first | rfl | (simp; done) | (simp [*]; done)), H', ⟨by have := HJ1.out; have := HK2.out; omega⟩, ⟨by (with_reducible repeat (first | refine yM ?_ _ | refine yO ?_ | refine yN ?_ _)); exact BK167.out⟩, ⟨kR1 HB⟩⟩
          · rw [if_neg c13] at H
            exact absurd H (by simp)
        · rw [if_neg c11] at H
          exact absurd H (by simp)
       · rw [if_neg c10] at H
         exact absurd H (by simp)
      · rw [if_neg c9] at H
        have c9b0 : decide (x21_2 < (l0_0.length : Int)) = false := zS c9; clear c9; obtain rfl := Option.some.inj H
        go_wp2
        go_ret
        exact ⟨by first | rfl | (simp <;> rfl) | (simp [*] <;> rfl), kR1 HB⟩

end Go.Proofs.Ytdiaebjbiddefaa.PFnNormalForm
