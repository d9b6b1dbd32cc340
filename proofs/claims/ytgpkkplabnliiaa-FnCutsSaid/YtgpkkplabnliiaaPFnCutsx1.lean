/- Each Go function here comes to what the plain function of its name says, where that says something. Made by a program of this session, over the print. -/
import Derived.Test.YtgpkkplabnliiaaPFnCutsx0
namespace Go.Proofs.Ytgpkkplabnliiaa.PFnCuts
open Go.RowKit Go.Proofs.YtgpkkplabnliiaaW.PrintWords Go.Proofs.YtgpkkplabnliiaaW.PrintLast Go.Proofs.YtgpkkplabnliiaaW.PrintMore
attribute [local go_sem] max2_int min2_int max_two min_two max_three min_three max_four min_four   -- for this text's walks alone
set_option linter.unusedVariables false
set_option linter.unusedSimpArgs false

/-! ### laws_b10Long: function 23 -/
def laws_b10Long.f (l0 : List Int) : Option (Bool) := some (decide ((l0.length : Int) > 1048576))
set_option maxHeartbeats 8000000 in
set_option maxRecDepth 100000 in
theorem laws_b10Long.calls (A0 : Option Addr) (c0 : Nat) (l0 : List Int) (r : Bool) (w : World) (hr0 : Kd.C (Kd.int .u8) w A0 l0.length l0) (hc0 : l0.length ≤ c0) (h : laws_b10Long.f l0 = some r) :
    Calls Try.prog 23 #[.slice A0 l0.length c0] w fun e w' => e = .returned (.bool r) ∧ Drawn0 w w' := by
  have HR0 := yD hr0
  have HC0 := yD hc0
  clear hr0 hc0
  have H : (some (decide ((l0.length : Int) > 1048576))) = some r := h
  clear h; obtain rfl := Option.some.inj H; go_enter Try.func23, Try.ntmps23
  go_wp2
  go_ret
  exact ⟨by first | rfl | (simp; done) | (simp [*]; done), by repeat (first | exact Drawn0.refl _ | apply Drawn0.step)⟩

/-- A state of type 92 at block g of W; what its slices lead to came in by w0. -/
def IsS92 (w0 W : World) (g : Nat) (f0 : List Int) (f1 : Int) (f2 : Int) : Prop := ∃ A0 c0, W.heap[g]? = some (.cells #[.slice A0 f0.length c0, .int .i64 f1, .int .u64 f2] 92 (0, 0)) ∧ w0.heap.size ≤ g ∧ Kd.C (Kd.int .u8) w0 A0 f0.length f0
theorem IsS92.grown {w0 W : World} {g : Nat} {f0 : List Int} {f1 : Int} {f2 : Int} {W1 : World} {row : Option Nat} (h : IsS92 w0 W g f0 f1 f2) (hw : W.grownBy W1 row) (hne : some g ≠ row) : IsS92 w0 W1 g f0 f1 f2 := by
  obtain ⟨A0, c0, hb, hg, hr0⟩ := h
  exact ⟨A0, c0, blk_grown hb hw hne, hg, hr0⟩
theorem IsS92.own_neN {w0 W : World} {g : Nat} {f0 : List Int} {f1 : Int} {f2 : Int} {α : Type} {d : Kd α} {e : Nat} {base : Nat} {ok : Nat → Prop} {v : Value} {xs : List α} (h : IsS92 w0 W g f0 f1 f2) (ho : Kd.N d e W base ok v xs) (ht : e ≠ 92) : some g ≠ v.ownBlock := by
  obtain ⟨A0, c0, hb, hg, hr0⟩ := h
  exact Kd.N_ne ho hb ht
theorem IsS92.fresh {w0 W : World} {g : Nat} {f0 : List Int} {f1 : Int} {f2 : Int} (h : IsS92 w0 W g f0 f1 f2) : ∀ k, W.heap.size ≤ k → k ≠ g := by
  obtain ⟨A0, c0, hb, hg, hr0⟩ := h
  exact Kd.freshB hb
theorem IsS92.kept {w0 W : World} {g : Nat} {f0 : List Int} {f1 : Int} {f2 : Int} {W1 : World} {S : Nat → Prop} (h : IsS92 w0 W g f0 f1 f2) (hk : Kept W W1 S) (hne : ¬ S g) : IsS92 w0 W1 g f0 f1 f2 := by
  obtain ⟨A0, c0, hb, hg, hr0⟩ := h
  exact ⟨A0, c0, blk_kept hb hk hne, hg, hr0⟩
theorem IsS92.below {w0 W : World} {g : Nat} {f0 : List Int} {f1 : Int} {f2 : Int} {W1 : World} (h : IsS92 w0 W g f0 f1 f2) (hw : Below W.heap.size W W1) : IsS92 w0 W1 g f0 f1 f2 := h.grown (grown_of_below hw none) (by simp)
theorem IsS92.alloc {w0 W : World} {g : Nat} {f0 : List Int} {f1 : Int} {f2 : Int} (h : IsS92 w0 W g f0 f1 f2) (o : Obj) : IsS92 w0 (W.alloc o) g f0 f1 f2 := h.below (below_alloc (Below.refl _ _) o)
theorem IsS92.drewN {w0 W : World} {g : Nat} {f0 : List Int} {f1 : Int} {f2 : Int} (h : IsS92 w0 W g f0 f1 f2) (m : Nat) : IsS92 w0 (W.drewN m) g f0 f1 f2 := h
theorem IsS92.drew {w0 W : World} {g : Nat} {f0 : List Int} {f1 : Int} {f2 : Int} (h : IsS92 w0 W g f0 f1 f2) : IsS92 w0 W.drew g f0 f1 f2 := h
theorem IsS92.at_ {w0 W : World} {g : Nat} {f0 : List Int} {f1 : Int} {f2 : Int} {w' : World} {m : Nat} (hq : W.drewN m = w') (h : IsS92 w0 W g f0 f1 f2) : IsS92 w0 w' g f0 f1 f2 := by subst hq; exact IsS92.drewN h m
theorem IsS92.apart {w0 W : World} {g : Nat} {f0 : List Int} {f1 : Int} {f2 : Int} {α : Type} {d : Kd α} {e : Nat} {base : Nat} {ok : Nat → Prop} {v : Value} {xs : List α} (h : IsS92 w0 W g f0 f1 f2) (ho : d.R e W base ok v xs) (ht : ∀ q, q ∈ e :: d.E → q ≠ 92) : d.R e W base (fun k => ok k ∧ k ≠ g) v xs := by
  obtain ⟨A0, c0, hb, hg, hr0⟩ := h
  exact Kd.R_types ho hb ht
theorem IsS92.own_ne {w0 W : World} {g : Nat} {f0 : List Int} {f1 : Int} {f2 : Int} {α : Type} {d : Kd α} {e : Nat} {base : Nat} {ok : Nat → Prop} {v : Value} {xs : List α} (h : IsS92 w0 W g f0 f1 f2) (ho : d.R e W base ok v xs) (ht : e ≠ 92) : some g ≠ v.ownBlock := by
  obtain ⟨A0, c0, hb, hg, hr0⟩ := h
  exact Kd.R_ne ho hb ht
theorem IsS92.apartQ {w0 W : World} {g : Nat} {f0 : List Int} {f1 : Int} {f2 : Int} {α : Type} {d : Kd α} {e : Nat} {base : Nat} {ok : Nat → Prop} {v : Value} {xs : List α} (h : IsS92 w0 W g f0 f1 f2) (ho : d.Q e W base ok v xs) (ht : ∀ q, q ∈ e :: d.E → q ≠ 92) : d.Q e W base (fun k => ok k ∧ k ≠ g) v xs := by
  obtain ⟨A0, c0, hb, hg, hr0⟩ := h
  exact Kd.Q_types ho hb ht
theorem IsS92.own_neQ {w0 W : World} {g : Nat} {f0 : List Int} {f1 : Int} {f2 : Int} {α : Type} {d : Kd α} {e : Nat} {base : Nat} {ok : Nat → Prop} {v : Value} {xs : List α} (h : IsS92 w0 W g f0 f1 f2) (ho : d.Q e W base ok v xs) (ht : e ≠ 92) : some g ≠ v.ownBlock := by
  obtain ⟨A0, c0, hb, hg, hr0⟩ := h
  exact Kd.Q_ne ho hb ht
theorem IsS92.apartS {w0 W : World} {g : Nat} {f0 : List Int} {f1 : Int} {f2 : Int} {α : Type} {d : Kd α} {e : Nat} {base : Nat} {ok : Nat → Prop} {v : Value} {xs : List α} (h : IsS92 w0 W g f0 f1 f2) (ho : d.S e W base ok v xs) (ht : ∀ q, q ∈ e :: d.E → q ≠ 92) : d.S e W base (fun k => ok k ∧ k ≠ g) v xs := by
  obtain ⟨A0, c0, hb, hg, hr0⟩ := h
  exact Kd.S_types ho hb ht
theorem IsS92.own_neS {w0 W : World} {g : Nat} {f0 : List Int} {f1 : Int} {f2 : Int} {α : Type} {d : Kd α} {e : Nat} {base : Nat} {ok : Nat → Prop} {v : Value} {xs : List α} (h : IsS92 w0 W g f0 f1 f2) (ho : d.S e W base ok v xs) (ht : e ≠ 92) : some g ≠ v.ownBlock := by
  obtain ⟨A0, c0, hb, hg, hr0⟩ := h
  exact Kd.S_ne ho hb ht
theorem IsS92.lt {w0 W : World} {g : Nat} {f0 : List Int} {f1 : Int} {f2 : Int} (h : IsS92 w0 W g f0 f1 f2) : g < W.heap.size := by
  obtain ⟨A0, c0, hb, hg, hr0⟩ := h
  exact blk_lt hb
theorem IsS92.ge {w0 W : World} {g : Nat} {f0 : List Int} {f1 : Int} {f2 : Int} (h : IsS92 w0 W g f0 f1 f2) : w0.heap.size ≤ g := by
  obtain ⟨A0, c0, hb, hg, hr0⟩ := h
  exact hg
theorem IsS92.ne_blk {w0 W : World} {g : Nat} {f0 : List Int} {f1 : Int} {f2 : Int} {a : Nat} {cs : Array Value} {t : TypeId} {fr : Nat × Nat} (h : IsS92 w0 W g f0 f1 f2) (hb2 : W.heap[a]? = some (.cells cs t fr)) (ht : t ≠ 92) : g ≠ a := by
  obtain ⟨A0, c0, hb, hg, hr0⟩ := h
  rintro rfl
  rw [hb] at hb2
  injection hb2 with hb2
  injection hb2 with _ ht2
  exact ht ht2.symm
theorem IsS92.far {w0 W : World} {g : Nat} {f0 : List Int} {f1 : Int} {f2 : Int} {p : Addr} (h : IsS92 w0 W g f0 f1 f2) (hne : g ≠ p.block) (u : Value) : IsS92 w0 (W.setCell p u) g f0 f1 f2 := by
  obtain ⟨A0, c0, hb, hg, hr0⟩ := h
  exact ⟨A0, c0, blk_far hb hne u, hg, hr0⟩
theorem cellS92_0 {W : World} {g : Nat} {A0 : Option Addr} {c0 : Nat} {f0 : List Int} {f1 : Int} {f2 : Int} (h : W.heap[g]? = some (.cells #[.slice A0 f0.length c0, .int .i64 f1, .int .u64 f2] 92 (0, 0))) : W.cell? ⟨g, 0, none⟩ = some (.slice A0 f0.length c0) := (blk_cell h 0).trans rfl
theorem cellS92_1 {W : World} {g : Nat} {A0 : Option Addr} {c0 : Nat} {f0 : List Int} {f1 : Int} {f2 : Int} (h : W.heap[g]? = some (.cells #[.slice A0 f0.length c0, .int .i64 f1, .int .u64 f2] 92 (0, 0))) : W.cell? ⟨g, 1, none⟩ = some (.int .i64 f1) := (blk_cell h 1).trans rfl
theorem IsS92.set_1 {w0 W : World} {g : Nat} {f0 : List Int} {f1 : Int} {f2 : Int} (h : IsS92 w0 W g f0 f1 f2) (x : Int) : IsS92 w0 (W.setCell ⟨g, 1, none⟩ (.int .i64 x)) g f0 x f2 := by
  obtain ⟨A0, c0, hb, hg, hr0⟩ := h
  exact ⟨A0, c0, by simpa using blk_set hb 1 (.int .i64 x), hg, hr0⟩
theorem cellS92_2 {W : World} {g : Nat} {A0 : Option Addr} {c0 : Nat} {f0 : List Int} {f1 : Int} {f2 : Int} (h : W.heap[g]? = some (.cells #[.slice A0 f0.length c0, .int .i64 f1, .int .u64 f2] 92 (0, 0))) : W.cell? ⟨g, 2, none⟩ = some (.int .u64 f2) := (blk_cell h 2).trans rfl
theorem IsS92.set_2 {w0 W : World} {g : Nat} {f0 : List Int} {f1 : Int} {f2 : Int} (h : IsS92 w0 W g f0 f1 f2) (x : Int) : IsS92 w0 (W.setCell ⟨g, 2, none⟩ (.int .u64 x)) g f0 f1 x := by
  obtain ⟨A0, c0, hb, hg, hr0⟩ := h
  exact ⟨A0, c0, by simpa using blk_set hb 2 (.int .u64 x), hg, hr0⟩
theorem IsS92.new (w0 W : World) (A0 : Option Addr) (c0 : Nat) (f0 : List Int) (f1 : Int) (f2 : Int) (hB : Below w0.heap.size w0 W) (hr0 : Kd.C (Kd.int .u8) w0 A0 f0.length f0) : IsS92 w0 (W.alloc (.cells #[.slice A0 f0.length c0, .int .i64 f1, .int .u64 f2] 92)) W.heap.size f0 f1 f2 := ⟨A0, c0, by simpa using heap_alloc_new W _, hB.size, hr0⟩

/-! ### spec_l00From: function 25 -/
def spec_l00From.f (l0 : List Int) : Option (List Int × Int × Int) := some (l0, 0, 0)
set_option maxHeartbeats 8000000 in
set_option maxRecDepth 100000 in
theorem spec_l00From.calls (A0 : Option Addr) (c0 : Nat) (l0 : List Int) (r1 : List Int) (r2 : Int) (r3 : Int) (w0 w : World) (hB : Below w0.heap.size w0 w) (hr0 : Kd.C (Kd.int .u8) w0 A0 l0.length l0) (hc0 : l0.length ≤ c0) (h : spec_l00From.f l0 = some (r1, r2, r3)) :
    Calls Try.prog 25 #[.slice A0 l0.length c0] w fun e w' => ∃ g_ : Nat, e = .returned (.pointer (some ⟨g_, 0, none⟩)) ∧ IsS92 w0 w' g_ r1 r2 r3 ∧ Below w0.heap.size w0 w' ∧ Below w.heap.size w w' := by
  have hu92 := Try.underlying92
  have HR0 := yD hr0
  have HC0 := yD hc0
  clear hr0 hc0
  have HBW := yD (Below.refl w.heap.size w)
  have HW0 := yD hB.size
  have HB := yD hB
  clear hB
  have H : (some (l0, 0, 0)) = some (r1, r2, r3) := h
  clear h
  simp only [Option.some.injEq, Prod.mk.injEq] at H
  obtain ⟨rfl, rfl, rfl⟩ := H
  go_enter Try.func25, Try.ntmps25
  go_wp2_with (first | ((with_reducible refine gate_dst (N := 5) rfl ?_); refine box_event ?hg (N := 5) ?hd (cs := #[.slice A0 l0.length c0, .int .i64 0, .int .u64 0]) (t := 92) ?hr ?_; (case hd => rfl); (case hg => rfl); (case hr => first | (go_simp; done) | (go_simp; rfl)); intro gb101 hg w2 hbox hb; have n0_ := yD (zC HBW.out hb); have n1_ := yD (zC (kB HB) hb); have n2_ := yD (hbox); have n3_ := yD ((by rw [hg]; exact (below_size (kR0 HBW)) : w.heap.size ≤ gb101)); have n4_ := yD ((Nat.le_trans HW0.out (by rw [hg]; exact (below_size (kR0 HBW)) : w.heap.size ≤ gb101) : w0.heap.size ≤ gb101)); clear HBW; clear HB; have HBW := n0_; have HB := n1_; have BK101 := n2_; have GW101 := n3_; have GE101 := n4_; clear n0_ n1_ n2_ n3_ n4_; clear hb hbox hg))
  go_ret
  exact ⟨_, rfl, (show IsS92 w0 _ gb101 l0 0 0 from ⟨_, _, by (with_reducible repeat (first | refine yM ?_ _ | refine yO ?_ | refine yN ?_ _)); exact BK101.out, GE101.out, HR0.out⟩), kR1 HB, kR1 HBW⟩

/-! ### spec_l00Src_next: function 90 -/
def spec_l00Src_next.f (s0_0 : List Int) (s0_1 : Int) (s0_2 : Int) : Option (Int × Int × Int) := if s0_1 < (s0_0.length : Int) then (if 0 ≤ s0_1 then (if (wrap64 (s0_1 + 1)) ≤ (s0_0.length : Int) then (some (wrap64 (rd s0_0 s0_1), wrap64 (s0_1 + 1), IntKind.u64.wrap ((IntKind.u64.wrap ((IntKind.u64.wrap (s0_2 * 6364136223846793005)) + (IntKind.u64.wrap (wrap64 (rd s0_0 s0_1))))) + 1442695040888963407))) else (some (wrap64 (Go.bits .and .u64 ((IntKind.u64.wrap ((IntKind.u64.wrap ((IntKind.u64.wrap (s0_2 * 6364136223846793005)) + (IntKind.u64.wrap (wrap64 (rd s0_0 s0_1))))) + 1442695040888963407)) / 1099511627776) 255), wrap64 (s0_1 + 1), IntKind.u64.wrap ((IntKind.u64.wrap ((IntKind.u64.wrap (s0_2 * 6364136223846793005)) + (IntKind.u64.wrap (wrap64 (rd s0_0 s0_1))))) + 1442695040888963407)))) else (none)) else (if (wrap64 (s0_1 + 1)) ≤ (s0_0.length : Int) then (some (0, wrap64 (s0_1 + 1), IntKind.u64.wrap ((IntKind.u64.wrap (IntKind.u64.wrap (s0_2 * 6364136223846793005))) + 1442695040888963407))) else (some (wrap64 (Go.bits .and .u64 ((IntKind.u64.wrap ((IntKind.u64.wrap (IntKind.u64.wrap (s0_2 * 6364136223846793005))) + 1442695040888963407)) / 1099511627776) 255), wrap64 (s0_1 + 1), IntKind.u64.wrap ((IntKind.u64.wrap (IntKind.u64.wrap (s0_2 * 6364136223846793005))) + 1442695040888963407))))
set_option maxHeartbeats 8000000 in
set_option maxRecDepth 100000 in
theorem spec_l00Src_next.calls (g : Nat) (s0_0 : List Int) (s0_1 : Int) (s0_2 : Int) (r1 : Int) (r2 : Int) (r3 : Int) (w0 w : World) (hI : IsS92 w0 w g s0_0 s0_1 s0_2) (hB : Below w0.heap.size w0 w) (h : spec_l00Src_next.f s0_0 s0_1 s0_2 = some (r1, r2, r3)) :
    Calls Try.prog 90 #[.pointer (some ⟨g, 0, none⟩)] w fun e w' => e = .returned (.int .i64 r1) ∧ IsS92 w0 w' g s0_0 r2 r3 ∧ Below w0.heap.size w0 w' ∧ KeepBut w w' g none := by
  have HI0 := yD hI
  have HK := yD (KeepBut.refl w g none)
  have HL := yD hB.size
  clear hI
  have HW0 := yD hB.size
  have HB := yD hB
  clear hB
  have H : (if s0_1 < (s0_0.length : Int) then (if 0 ≤ s0_1 then (if (wrap64 (s0_1 + 1)) ≤ (s0_0.length : Int) then (some (wrap64 (rd s0_0 s0_1), wrap64 (s0_1 + 1), IntKind.u64.wrap ((IntKind.u64.wrap ((IntKind.u64.wrap (s0_2 * 6364136223846793005)) + (IntKind.u64.wrap (wrap64 (rd s0_0 s0_1))))) + 1442695040888963407))) else (some (wrap64 (Go.bits .and .u64 ((IntKind.u64.wrap ((IntKind.u64.wrap ((IntKind.u64.wrap (s0_2 * 6364136223846793005)) + (IntKind.u64.wrap (wrap64 (rd s0_0 s0_1))))) + 1442695040888963407)) / 1099511627776) 255), wrap64 (s0_1 + 1), IntKind.u64.wrap ((IntKind.u64.wrap ((IntKind.u64.wrap (s0_2 * 6364136223846793005)) + (IntKind.u64.wrap (wrap64 (rd s0_0 s0_1))))) + 1442695040888963407)))) else (none)) else (if (wrap64 (s0_1 + 1)) ≤ (s0_0.length : Int) then (some (0, wrap64 (s0_1 + 1), IntKind.u64.wrap ((IntKind.u64.wrap (IntKind.u64.wrap (s0_2 * 6364136223846793005))) + 1442695040888963407))) else (some (wrap64 (Go.bits .and .u64 ((IntKind.u64.wrap ((IntKind.u64.wrap (IntKind.u64.wrap (s0_2 * 6364136223846793005))) + 1442695040888963407)) / 1099511627776) 255), wrap64 (s0_1 + 1), IntKind.u64.wrap ((IntKind.u64.wrap (IntKind.u64.wrap (s0_2 * 6364136223846793005))) + 1442695040888963407))))) = some (r1, r2, r3) := h
  clear h
  by_cases c2 : s0_1 < (s0_0.length : Int)
  · rw [if_pos c2] at H
    have c2b0 : decide (s0_1 < (s0_0.length : Int)) = true := zR c2; clear c2
    by_cases c3 : 0 ≤ s0_1
    · rw [if_pos c3] at H
      have c3b0 : decide (0 ≤ s0_1) = true := zR c3; clear c3
      by_cases c4 : (wrap64 (s0_1 + 1)) ≤ (s0_0.length : Int)
      · rw [if_pos c4] at H
        have c4b0 : decide ((wrap64 (s0_1 + 1)) ≤ (s0_0.length : Int)) = true := zR c4; clear c4
        simp only [Option.some.injEq, Prod.mk.injEq] at H
        obtain ⟨rfl, rfl, rfl⟩ := H
        obtain ⟨ASz5_0, cSz5_0, HGz5, hgz5, HSz5_0⟩ := HI0.out
        have hcz5_0 := cellS92_0 HGz5
        have hcz5_1 := cellS92_1 HGz5
        have hcz5_2 := cellS92_2 HGz5
        have hfz5_1 := yR HGz5 1
        have hfz5_2 := yR HGz5 2
        clear HGz5 hgz5
        have p102 : 0 ≤ (s0_1 : Int) := zP (by assumption)
        have q102 : s0_1 < (s0_0.length : Int) := zP (by assumption)
        obtain ⟨ad102, e102, hx102_0⟩ := Kd.at_int HSz5_0 s0_1 p102 q102
        cases e102
        replace hx102_0 := pw_cell_below HB.out hx102_0
        replace p102 := eq_true p102; replace q102 := eq_true q102; go_enter Try.func90, Try.ntmps90
        go_wp2
        repeat (go_quiet (fail); try go_wp2)
        go_ret
        exact ⟨by first | rfl | (simp <;> rfl) | (simp [*] <;> rfl), kR2 HI0, kR3 HB, kR4 HK⟩
      · rw [if_neg c4] at H
        have c4b0 : decide ((wrap64 (s0_1 + 1)) ≤ (s0_0.length : Int)) = false := zS c4; clear c4
        simp only [Option.some.injEq, Prod.mk.injEq] at H
        obtain ⟨rfl, rfl, rfl⟩ := H
        obtain ⟨ASz6_0, cSz6_0, HGz6, hgz6, HSz6_0⟩ := HI0.out
        have hcz6_0 := cellS92_0 HGz6
        have hcz6_1 := cellS92_1 HGz6
        have hcz6_2 := cellS92_2 HGz6
        have hfz6_1 := yR HGz6 1
        have hfz6_2 := yR HGz6 2
        clear HGz6 hgz6
        have p102 : 0 ≤ (s0_1 : Int) := zP (by assumption)
        have q102 : s0_1 < (s0_0.length : Int) := zP (by assumption)
        obtain ⟨ad102, e102, hx102_0⟩ := Kd.at_int HSz6_0 s0_1 p102 q102
        cases e102
        replace hx102_0 := pw_cell_below HB.out hx102_0
        replace p102 := eq_true p102; replace q102 := eq_true q102; go_enter Try.func90, Try.ntmps90
        go_wp2
        repeat (go_quiet (fail); try go_wp2)
        go_ret
        exact ⟨by first | rfl | (simp <;> rfl) | (simp [*] <;> rfl), kR2 HI0, kR3 HB, kR4 HK⟩
    · rw [if_neg c3] at H
      exact absurd H (by simp)
  · rw [if_neg c2] at H
    have c2b0 : decide (s0_1 < (s0_0.length : Int)) = false := zS c2; clear c2
    by_cases c7 : (wrap64 (s0_1 + 1)) ≤ (s0_0.length : Int)
    · rw [if_pos c7] at H
      have c7b0 : decide ((wrap64 (s0_1 + 1)) ≤ (s0_0.length : Int)) = true := zR c7; clear c7
      simp only [Option.some.injEq, Prod.mk.injEq] at H
      obtain ⟨rfl, rfl, rfl⟩ := H
      obtain ⟨ASz8_0, cSz8_0, HGz8, hgz8, HSz8_0⟩ := HI0.out
      have hcz8_0 := cellS92_0 HGz8
      have hcz8_1 := cellS92_1 HGz8
      have hcz8_2 := cellS92_2 HGz8
      have hfz8_1 := yR HGz8 1
      have hfz8_2 := yR HGz8 2
      clear HGz8 hgz8; go_enter Try.func90, Try.ntmps90
      go_wp2
      repeat (go_quiet (fail); try go_wp2)
      go_ret
      exact ⟨by first | rfl | (simp <;> rfl) | (simp [*] <;> rfl), kR2 HI0, kR3 HB, kR4 HK⟩
    · rw [if_neg c7] at H
      have c7b0 : decide ((wrap64 (s0_1 + 1)) ≤ (s0_0.length : Int)) = false := zS c7; clear c7
      simp only [Option.some.injEq, Prod.mk.injEq] at H
      obtain ⟨rfl, rfl, rfl⟩ := H
      obtain ⟨ASz9_0, cSz9_0, HGz9, hgz9, HSz9_0⟩ := HI0.out
      have hcz9_0 := cellS92_0 HGz9
      have hcz9_1 := cellS92_1 HGz9
      have hcz9_2 := cellS92_2 HGz9
      have hfz9_1 := yR HGz9 1
      have hfz9_2 := yR HGz9 2
      clear HGz9 hgz9; go_enter Try.func90, Try.ntmps90
      go_wp2
      repeat (go_quiet (fail); try go_wp2)
      go_ret
      exact ⟨by first | rfl | (simp <;> rfl) | (simp [*] <;> rfl), kR2 HI0, kR3 HB, kR4 HK⟩

/-! ### spec_l00Src_pick: function 58 -/
def spec_l00Src_pick.f (s0_0 : List Int) (s0_1 : Int) (s0_2 : Int) (a1 : Int) : Option (Int × Int × Int) := if a1 ≤ 1 then (some (0, s0_1, s0_2)) else ((spec_l00Src_next.f s0_0 s0_1 s0_2).bind fun bt103 => (if a1 > 200 then ((spec_l00Src_next.f s0_0 bt103.2.1 bt103.2.2).bind fun bt106 => (if a1 = 0 then (none) else (some (Int.tmod (wrap64 ((wrap64 (bt103.1 * 256)) + bt106.1)) a1, bt106.2.1, bt106.2.2)))) else (if a1 = 0 then (none) else (some (Int.tmod bt103.1 a1, bt103.2.1, bt103.2.2)))))
set_option maxHeartbeats 8000000 in
set_option maxRecDepth 100000 in
theorem spec_l00Src_pick.calls (g : Nat) (s0_0 : List Int) (s0_1 : Int) (s0_2 : Int) (a1 : Int) (r1 : Int) (r2 : Int) (r3 : Int) (w0 w : World) (hI : IsS92 w0 w g s0_0 s0_1 s0_2) (hB : Below w0.heap.size w0 w) (h : spec_l00Src_pick.f s0_0 s0_1 s0_2 a1 = some (r1, r2, r3)) :
    Calls Try.prog 58 #[.pointer (some ⟨g, 0, none⟩), .int .i64 a1] w fun e w' => e = .returned (.int .i64 r1) ∧ IsS92 w0 w' g s0_0 r2 r3 ∧ Below w0.heap.size w0 w' ∧ KeepBut w w' g none := by
  have HI0 := yD hI
  have HK := yD (KeepBut.refl w g none)
  have HL := yD hB.size
  clear hI
  have HW0 := yD hB.size
  have HB := yD hB
  clear hB
  have H : (if a1 ≤ 1 then (some (0, s0_1, s0_2)) else ((spec_l00Src_next.f s0_0 s0_1 s0_2).bind fun bt103 => (if a1 > 200 then ((spec_l00Src_next.f s0_0 bt103.2.1 bt103.2.2).bind fun bt106 => (if a1 = 0 then (none) else (some (Int.tmod (wrap64 ((wrap64 (bt103.1 * 256)) + bt106.1)) a1, bt106.2.1, bt106.2.2)))) else (if a1 = 0 then (none) else (some (Int.tmod bt103.1 a1, bt103.2.1, bt103.2.2)))))) = some (r1, r2, r3) := h
  clear h
  by_cases c3 : a1 ≤ 1
  · rw [if_pos c3] at H
    have c3b0 : decide (a1 ≤ 1) = true := zR c3; clear c3
    simp only [Option.some.injEq, Prod.mk.injEq] at H
    obtain ⟨rfl, rfl, rfl⟩ := H
    go_enter Try.func58, Try.ntmps58
    go_wp2
    go_ret
    exact ⟨by first | rfl | (simp <;> rfl) | (simp [*] <;> rfl), kR2 HI0, kR3 HB, kR4 HK⟩
  · rw [if_neg c3] at H
    have c3b0 : decide (a1 ≤ 1) = false := zS c3; clear c3
    obtain ⟨⟨t103, t104, t105⟩, A40, H⟩ := zW_ H
    replace H : (if a1 > 200 then ((spec_l00Src_next.f s0_0 t104 t105).bind fun bt106 => (if a1 = 0 then (none) else (some (Int.tmod (wrap64 ((wrap64 (t103 * 256)) + bt106.1)) a1, bt106.2.1, bt106.2.2)))) else (if a1 = 0 then (none) else (some (Int.tmod t103 a1, t104, t105)))) = some (r1, r2, r3) := H
    have A4 := yD A40
    clear A40
    by_cases c5 : a1 > 200
    · rw [if_pos c5] at H
      have c5b0 : decide (200 < a1) = true := zR c5; clear c5
      obtain ⟨⟨t106, t107, t108⟩, A60, H⟩ := zW_ H
      replace H : (if a1 = 0 then (none) else (some (Int.tmod (wrap64 ((wrap64 (t103 * 256)) + t106)) a1, t107, t108))) = some (r1, r2, r3) := H
      have A6 := yD A60
      clear A60
      by_cases c7 : a1 = 0
      · rw [if_pos c7] at H
        exact absurd H (by simp)
      · rw [if_neg c7] at H
        have c7b0 : (a1 == 0) = false := beq_eq_false_iff_ne.mpr c7
        have c7b1 : (a1 != 0) = true := bne_iff_ne.mpr c7
        simp only [Option.some.injEq, Prod.mk.injEq] at H
        obtain ⟨rfl, rfl, rfl⟩ := H
        go_enter Try.func58, Try.ntmps58
        go_wp2_with (first | ((with_reducible refine gate_callee (f := 90) rfl ?_); refine goesL_ (some 9) rfl rfl Try.func90 (by kernel_rfl) rfl #[.pointer (some ⟨g, 0, none⟩)] rfl (by (try simp only [zK, zL, zM]); first | done | rfl | (simp only [zN, zO]; rfl)) ?_; (with_reducible refine (spec_l00Src_next.calls g s0_0 s0_1 s0_2 t103 t104 t105 w0 _ ?side1 ?side2 A4.out).mono ?_); (case side1 => exact kR2 HI0); (case side2 => exact kR3 HB); rintro e w8 ⟨rfl, hi, hb, hk⟩; refine ⟨_, rfl, ?_⟩; have n0_ := yD (KeepBut.trans (kR4 HK) hk (.inl rfl)); have n1_ := yD (hb); have n2_ := yD (hi); clear HK; clear HB; clear HI0; have HK := n0_; have HB := n1_; have HI0 := n2_; clear n0_ n1_ n2_; (try clear hb); (try clear hb2); (try clear hk); (try clear hi)) | ((with_reducible refine gate_callee (f := 90) rfl ?_); refine goesL_ (some 15) rfl rfl Try.func90 (by kernel_rfl) rfl #[.pointer (some ⟨g, 0, none⟩)] rfl (by (try simp only [zK, zL, zM]); first | done | rfl | (simp only [zN, zO]; rfl)) ?_; (with_reducible refine (spec_l00Src_next.calls g s0_0 t104 t105 t106 t107 t108 w0 _ ?side1 ?side2 A6.out).mono ?_); (case side1 => exact kR2 HI0); (case side2 => exact kR3 HB); rintro e w9 ⟨rfl, hi, hb, hk⟩; refine ⟨_, rfl, ?_⟩; have n0_ := yD (KeepBut.trans (kR4 HK) hk (.inl rfl)); have n1_ := yD (hb); have n2_ := yD (hi); clear HK; clear HB; clear HI0; have HK := n0_; have HB := n1_; have HI0 := n2_; clear n0_ n1_ n2_; (try clear hb); (try clear hb2); (try clear hk); (try clear hi)))
        go_ret
        exact ⟨by first | rfl | (simp <;> rfl) | (simp [*] <;> rfl), kR2 HI0, kR3 HB, kR4 HK⟩
    · rw [if_neg c5] at H
      have c5b0 : decide (200 < a1) = false := zS c5; clear c5
      by_cases c10 : a1 = 0
      · rw [if_pos c10] at H
        exact absurd H (by simp)
      · rw [if_neg c10] at H
        have c10b0 : (a1 == 0) = false := beq_eq_false_iff_ne.mpr c10
        have c10b1 : (a1 != 0) = true := bne_iff_ne.mpr c10
        simp only [Option.some.injEq, Prod.mk.injEq] at H
        obtain ⟨rfl, rfl, rfl⟩ := H
        go_enter Try.func58, Try.ntmps58
        go_wp2_with (first | ((with_reducible refine gate_callee (f := 90) rfl ?_); refine goesL_ (some 9) rfl rfl Try.func90 (by kernel_rfl) rfl #[.pointer (some ⟨g, 0, none⟩)] rfl (by (try simp only [zK, zL, zM]); first | done | rfl | (simp only [zN, zO]; rfl)) ?_; (with_reducible refine (spec_l00Src_next.calls g s0_0 s0_1 s0_2 t103 t104 t105 w0 _ ?side1 ?side2 A4.out).mono ?_); (case side1 => exact kR2 HI0); (case side2 => exact kR3 HB); rintro e w11 ⟨rfl, hi, hb, hk⟩; refine ⟨_, rfl, ?_⟩; have n0_ := yD (KeepBut.trans (kR4 HK) hk (.inl rfl)); have n1_ := yD (hb); have n2_ := yD (hi); clear HK; clear HB; clear HI0; have HK := n0_; have HB := n1_; have HI0 := n2_; clear n0_ n1_ n2_; (try clear hb); (try clear hb2); (try clear hk); (try clear hi)))
        go_ret
        exact ⟨by first | rfl | (simp <;> rfl) | (simp [*] <;> rfl), kR2 HI0, kR3 HB, kR4 HK⟩

/-! ### spec_l09Zero: function 89 -/
def spec_l09Zero.f  : Option (ByteArray) := if 64 ≤ 281474976710656 then (some (strOfNums (List.replicate 64 0))) else (none)
set_option maxHeartbeats 8000000 in
set_option maxRecDepth 100000 in
theorem spec_l09Zero.calls  (r : ByteArray) (w : World) (h : spec_l09Zero.f  = some r) :
    Calls Try.prog 89 #[] w fun e w' => e = .returned (.string r) ∧ Below w.heap.size w w' := by
  have HB := yD (Below.refl w.heap.size w)
  have H : (if 64 ≤ 281474976710656 then (some (strOfNums (List.replicate 64 0))) else (none)) = some r := h
  clear h
  by_cases c1 : 64 ≤ 281474976710656
  · rw [if_pos c1] at H
    have c1b0 := eq_true c1
    have c1b1 : decide (64 ≤ 281474976710656) = true := zR c1; clear c1
    obtain ⟨y109, hy109⟩ : ∃ y_ : List Int, y_ = (List.replicate 64 0) := ⟨_, rfl⟩
    replace H : (some (strOfNums y109)) = some r := by first | (rw [hy109]; with_reducible exact H) | (have H2_ := (Option.bind_some _ _).symm.trans H; rw [hy109]; with_reducible exact H2_) | (have H2_ := (Option.bind_some _ _).symm.trans H; with_reducible exact H2_) | with_reducible exact H | (rw [hy109]; exact H) | exact H
    have Ny109 := yD hy109
    clear hy109; obtain rfl := Option.some.inj H; go_enter Try.func89, Try.ntmps89
    go_wp2_with (first | ((with_reducible refine gate_dst (N := 1) rfl ?_); refine Kd.R_make (Kd.int .u8) _ 5 rfl (N := 1) rfl 22 _ _ rfl 64 rfl rfl Try.underlying22 (.int .u8 0) 1 info5 rfl (by decide) (by omega) 0 (ok := fun _ => True) (okp := fun _ => True) rfl (fun _ hk => hk) trivial (by omega) (by omega) (Below.refl _ _) (Nat.le_refl _) ?_; intro v110 w2 ho3 hb hg_ hnew_; clear hg_ hnew_; (first | rw [← Ny109.out] at ho3 | (simp only [Int.reduceToNat] at ho3; rw [← Ny109.out] at ho3)); have n0_ := yD (yZ ho3 (below_size (kB HB))); have n1_ := yD (zC (kB HB) hb); clear HB; have HO111 := n0_; have HB := n1_; clear n0_ n1_; clear hb ho3; have hcv4 := own_string (P := Try.prog) Try.underlying22 Try.underlying5 Try.underlying9 (Kd.own_of_R HO111.out)))
    go_ret
    exact ⟨by first | rfl | (simp <;> rfl) | (simp [*] <;> rfl), kR0 HB⟩
  · rw [if_neg c1] at H
    exact absurd H (by simp)

/-! ### spec_l09New: function 86 -/
def spec_l09New.l0 : Nat → Int → Int → List ByteArray → Int → Bool → Option (List ByteArray × (List (S57)) × Int × Bool)
  | 0, _, _, _, _, _ => none
  | k + 1, x0, x4, x114000, x114002, x114003 => if x4 < x0 then ((spec_l09Zero.f).bind fun t114 => (if x114000.length < 8796093022208 then (spec_l09New.l0 k x0 (wrap64 (x4 + 1)) (x114000 ++ [t114]) x114002 x114003) else (none))) else (some (x114000, ([] : List (S57)), x114002, x114003))
def spec_l09New.f (k : Nat) (a0 : Int) : Option (List ByteArray × (List (S57)) × Int × Bool) := spec_l09New.l0 k a0 0 ([] : List ByteArray) (-1) false
theorem spec_l09New.mono_l : ∀ k, (∀ y0 y1 y2 y3 y4, LeO (spec_l09New.l0 k y0 y1 y2 y3 y4) (spec_l09New.l0 (k + 1) y0 y1 y2 y3 y4))
  | 0 => fun _ _ _ _ _ r h => by simp [spec_l09New.l0] at h
  | k + 1 => by
    have ih0 := spec_l09New.mono_l k
    · intro y0 y1 y2 y3 y4
      unfold spec_l09New.l0
      repeat' first
      | (with_reducible exact ih0 _ _ _ _ _)
      | (with_reducible exact LeO.refl _)
      | (with_reducible exact LeO.none _)
      | (with_reducible refine LeO.ite ?_ ?_)
      | (with_reducible refine LeO.bind ?_ (fun _ => ?_))
      | exact ih0 _ _ _ _ _
      | exact LeO.none _
      | refine LeO.ite ?_ ?_
      | refine LeO.bind ?_ (fun _ => ?_)
theorem spec_l09New.mono : ∀ a0 k, LeO (spec_l09New.f k a0) (spec_l09New.f (k + 1) a0) := by
  intro a0 k
  have ih0 := spec_l09New.mono_l k
  unfold spec_l09New.f
  repeat' first
      | (with_reducible exact ih0 _ _ _ _ _)
      | (with_reducible exact LeO.refl _)
      | (with_reducible exact LeO.none _)
      | (with_reducible refine LeO.ite ?_ ?_)
      | (with_reducible refine LeO.bind ?_ (fun _ => ?_))
      | exact ih0 _ _ _ _ _
      | exact LeO.none _
      | refine LeO.ite ?_ ?_
      | refine LeO.bind ?_ (fun _ => ?_)
set_option maxHeartbeats 8000000 in
set_option maxRecDepth 100000 in
theorem spec_l09New.calls (k : Nat) (a0 : Int) (r1 : List ByteArray) (r2 : List (S57)) (r3 : Int) (r4 : Bool) (w : World) (h : spec_l09New.f k a0 = some (r1, r2, r3, r4)) :
    Calls Try.prog 86 #[.int .i64 a0] w fun e w' => ∃ v0_ v1_ : Value, e = .returned (.agg #[v0_, v1_, .int .i64 r3, .bool r4]) ∧ Kd.R Kd.string 9 w' w.heap.size (fun _ => True) v0_ r1 ∧ Kd.R k57 57 w' w.heap.size (fun _ => True) v1_ r2 ∧ Below w.heap.size w w' := by
  have hu44 := Try.underlying44
  have HB := yD (Below.refl w.heap.size w)
  have H : (spec_l09New.l0 k a0 0 ([] : List ByteArray) (-1) false) = some (r1, r2, r3, r4) := h
  clear h
  have H' := yD H
  clear H; go_enter Try.func86, Try.ntmps86
  go_wp2_with (first | ((with_reducible refine gate_dst (N := 2) rfl ?_); refine box_event ?hg (N := 2) ?hd (cs := #[.slice none 0 0, .slice none 0 0, .int .i64 0, .bool false]) (t := 44) ?hr ?_; (case hd => rfl); (case hg => rfl); (case hr => first | (go_simp; done) | (go_simp; rfl)); intro gb112 hg w2 hbox hb; have n0_ := yD (zC (kB HB) hb); have n1_ := yD (hbox); have n2_ := yD ((by rw [hg]; exact (below_size (kB HB)) : w.heap.size ≤ gb112)); have n3_ := yD ((by rw [hg]; exact (below_size (kB HB)) : w.heap.size ≤ gb112)); clear HB; have HB := n0_; have BK112 := n1_; have GW112 := n2_; have GE112 := n3_; clear n0_ n1_ n2_ n3_; clear hb hbox hg) | ((with_reducible refine gate_dst (N := 3) rfl ?_); refine box_event ?hg (N := 3) ?hd (cs := #[.slice none 0 0, .slice none 0 0, .int .i64 0, .bool false]) (t := 44) ?hr ?_; (case hd => rfl); (case hg => rfl); (case hr => first | (go_simp; done) | (go_simp; rfl)); intro gb113 hg w3 hbox hb; have n0_ := yD (zB (g := gb112) (o := .cells #[.slice none 0 0, .slice none 0 0, .int .i64 0, .bool false] 44 (0, 0)) (kM BK112) hb); have n1_ := yD (zC (kB HB) hb); have n2_ := yD (hbox); have n3_ := yD ((by rw [hg]; exact (below_size (kB HB)) : w.heap.size ≤ gb113)); have n4_ := yD ((by rw [hg]; exact (below_size (kB HB)) : w.heap.size ≤ gb113)); have n5_ := yD ((by rw [hg]; exact Nat.ne_of_lt (blk_lt (g := gb112) (o := .cells #[.slice none 0 0, .slice none 0 0, .int .i64 0, .bool false] 44 (0, 0)) (kM BK112)) : gb112 ≠ gb113)); have n6_ := yD ((by rw [hg]; exact Nat.ne_of_gt (blk_lt (g := gb112) (o := .cells #[.slice none 0 0, .slice none 0 0, .int .i64 0, .bool false] 44 (0, 0)) (kM BK112)) : gb113 ≠ gb112)); clear BK112; clear HB; have BK112 := n0_; have HB := n1_; have BK113 := n2_; have GW113 := n3_; have GE113 := n4_; have NB112_113 := n5_; have NB113_112 := n6_; clear n0_ n1_ n2_ n3_ n4_ n5_ n6_; clear hb hbox hg; have hnb4 := NB113_112.out; have hnc4 := NB112_113.out; obtain ⟨hcz5_0, hcz5_1, hcz5_2, hcz5_3⟩ := cz4 BK113.out; obtain ⟨hfz5_0, hfz5_1, hfz5_2, hfz5_3⟩ := fz4 BK113.out))
  (try simp only [Act.put, zH, zI, zJ])
  go_loopg [4] k (fun kq v4 w' => ∃ (x4_1 : Int) (x114000_1 : List ByteArray) (u114000 : Value), v4 = .int .i64 x4_1 ∧ Aside0 (spec_l09New.l0 kq a0 x4_1 x114000_1 (-1) false = some (r1, r2, r3, r4)) ∧ Aside0 (kq ≤ k) ∧ Aside0 (Kd.R Kd.string 9 w' w.heap.size (fun _ => True) u114000 x114000_1) ∧ Aside0 (w'.heap[gb112]? = some (.cells #[(.slice none 0 0), (.slice none 0 0), .int .i64 0, .bool false] 44 (0, 0))) ∧ Aside0 (w'.heap[gb113]? = some (.cells #[u114000, (.slice none 0 0), .int .i64 (-1), .bool false] 44 (0, 0))) ∧ Aside0 (Below w.heap.size w w'))
  case atStart => exact ⟨(0), (([] : List ByteArray)), (.slice none 0 0), (by first | rfl | (simp; done) | (simp [*]; done)), H', ⟨Nat.le_refl _⟩, ⟨by first | exact Kd.R_nil _ _ _ _ _ | exact Kd.N_nil _ _ _ _ _ | exact Kd.V_nil _ _ _ _ _ | exact Kd.Q_nil _ _ _ _ _ | exact Kd.S_nil _ _ _ _ _⟩, ⟨by (with_reducible repeat (first | refine yM ?_ _ | refine yO ?_ | refine yN ?_ _)); refine blk_far ?_ NB112_113.out _; (with_reducible repeat (first | refine yM ?_ _ | refine yO ?_ | refine yN ?_ _)); refine blk_far ?_ NB112_113.out _; (with_reducible repeat (first | refine yM ?_ _ | refine yO ?_ | refine yN ?_ _)); refine blk_far ?_ NB112_113.out _; (with_reducible repeat (first | refine yM ?_ _ | refine yO ?_ | refine yN ?_ _)); refine blk_far ?_ NB112_113.out _; (with_reducible repeat (first | refine yM ?_ _ | refine yO ?_ | refine yN ?_ _)); exact BK112.out⟩, ⟨by (with_reducible repeat (first | refine yM ?_ _ | refine yO ?_ | refine yN ?_ _)); refine blk_put (cs := #[.slice none 0 0, .slice none 0 0, .int .i64 (-1), .bool false]) ?_ 3 _ rfl; (with_reducible repeat (first | refine yM ?_ _ | refine yO ?_ | refine yN ?_ _)); refine blk_put (cs := #[.slice none 0 0, .slice none 0 0, .int .i64 0, .bool false]) ?_ 2 _ rfl; (with_reducible repeat (first | refine yM ?_ _ | refine yO ?_ | refine yN ?_ _)); refine blk_put (cs := #[.slice none 0 0, .slice none 0 0, .int .i64 0, .bool false]) ?_ 1 _ rfl; (with_reducible repeat (first | refine yM ?_ _ | refine yO ?_ | refine yN ?_ _)); refine blk_put (cs := #[.slice none 0 0, .slice none 0 0, .int .i64 0, .bool false]) ?_ 0 _ rfl; (with_reducible repeat (first | refine yM ?_ _ | refine yO ?_ | refine yN ?_ _)); exact BK113.out⟩, ⟨kR1 HB⟩⟩
  case round =>
    clear H'
    try clear p2; try clear c4; try clear hcz5_0; try clear hcz5_1; try clear hcz5_2; try clear hcz5_3; try clear hfz5_0; try clear hfz5_1; try clear hfz5_2; try clear hfz5_3
    obtain ⟨x4_1, x114000_1, u114000, rfl, HA, HK1, HO_114000, BK112, BK113, HB⟩ := hrel
    cases gk with
    | zero => exact absurd HA.out (by simp [spec_l09New.l0])
    | succ k1 =>
      have H := HA.out; clear HA
      simp only [spec_l09New.l0] at H
      by_cases c6 : x4_1 < a0
      · rw [if_pos c6] at H
        have c6b0 : decide (x4_1 < a0) = true := zR c6; clear c6
        obtain ⟨t114, A70, H⟩ := zW_ H
        replace H : (if x114000_1.length < 8796093022208 then (spec_l09New.l0 k1 a0 (wrap64 (x4_1 + 1)) (x114000_1 ++ [t114]) (-1) false) else (none)) = some (r1, r2, r3, r4) := H
        have A7 := yD A70
        clear A70
        by_cases c8 : x114000_1.length < 8796093022208
        · rw [if_pos c8] at H
          have LMc8 := yD c8
          clear c8
          obtain ⟨y115, hy115⟩ : ∃ y_ : List ByteArray, y_ = (x114000_1 ++ [t114]) := ⟨_, rfl⟩
          replace H : (spec_l09New.l0 k1 a0 (wrap64 (x4_1 + 1)) y115 (-1) false) = some (r1, r2, r3, r4) := by first | (rw [hy115]; with_reducible exact H) | (have H2_ := (Option.bind_some _ _).symm.trans H; rw [hy115]; with_reducible exact H2_) | (have H2_ := (Option.bind_some _ _).symm.trans H; with_reducible exact H2_) | with_reducible exact H | (rw [hy115]; exact H) | exact H
          have Ny115 := yD hy115
          clear hy115
          have H' := yD H
          clear H
          try go_wp2
          have n0_ := yD (yC HO_114000.out)
          have n1_ := yD (yO BK112.out)
          have n2_ := yD (yO BK113.out)
          have n3_ := yD (yP HB.out)
          clear HO_114000 BK112 BK113 HB; have HO_114000 := n0_; have BK112 := n1_; have BK113 := n2_; have HB := n3_; clear n0_ n1_ n2_ n3_
          refine start_ (n := 7) (S := fun w' => w'.cell? ⟨gb113, 0, none⟩ = some (u114000) ∧ w'.cell? ⟨gb113, 1, none⟩ = some (.slice none 0 0) ∧ w'.cell? ⟨gb113, 2, none⟩ = some (.int .i64 (-1)) ∧ w'.cell? ⟨gb113, 3, none⟩ = some (.bool false)) (ds := [6]) (bz 7 0) (by kernel_rfl) rfl rfl ⟨(yG BK113.out 0).trans rfl, (yG BK113.out 1).trans rfl, (yG BK113.out 2).trans rfl, (yG BK113.out 3).trans rfl⟩ (fun hHeld => ?_)
          generalize wr.drew = w9 at HO_114000 BK112 BK113 HB hHeld ⊢
          refine pA 0 11 (bz 7 1) rfl rfl (by kernel_rfl) (fun _ _ _ h => h) (by rfl) (fun _ => by go_simp; with_reducible rfl) (by simp only [Act.put, zH, zI, zJ, i64_w, i32_w]; rfl) ?_
          refine pC 1 12 (bz 7 3) rfl rfl (by kernel_rfl) (fun _ _ _ h => h) (by rfl) hHeld (by rintro w' ⟨s0, s1, s2, s3⟩; go_simp; with_reducible rfl) (by simp only [Act.put, zH, zI, zJ, i64_w, i32_w]; rfl) ?_
          refine one_ (i := 2) (N := some 13) (bz 7 7) rfl rfl (by kernel_rfl) (by decide) (fun K hK => ?_)
          refine goes_ Try.func89 (by kernel_rfl) rfl #[] (by rfl) rfl rfl (by (try simp only [zK, zL, zM]); first | done | rfl | (simp only [zN, zO]; rfl)) ?_
          with_reducible refine (spec_l09Zero.calls  t114 _ A7.out).mono ?_
          rintro e w10 ⟨rfl, hb⟩
          refine ⟨_, rfl, ?_⟩
          have n0_ := yD (zE (kA HO_114000) hb)
          have n1_ := yD (zB (g := gb112) (o := .cells #[.slice none 0 0, .slice none 0 0, .int .i64 0, .bool false] 44 (0, 0)) (kM BK112) hb)
          have n2_ := yD (zB (g := gb113) (o := .cells #[u114000, .slice none 0 0, .int .i64 (-1), .bool false] 44 (0, 0)) (kM BK113) hb)
          have n3_ := yD (zC (kB HB) hb)
          clear HO_114000 BK112 BK113 HB; have HO_114000 := n0_; have BK112 := n1_; have BK113 := n2_; have HB := n3_; clear n0_ n1_ n2_ n3_; (try clear hb); (try clear hb2); (try clear hk); (try clear hi)
          refine hK.out _ _ ⟨(yG BK113.out 0).trans rfl, (yG BK113.out 1).trans rfl, (yG BK113.out 2).trans rfl, (yG BK113.out 3).trans rfl⟩ (fun hHeld => ?_)
          clear hK K
          refine norm_ (a' := ?_) ?_ ?_
          rotate_left
          · show Act.put _ (some 13) _ = _
            simp only [Act.put, zH, zI, zJ, i64_w, i32_w]
            rfl
          refine one_ (i := 3) (N := some 14) (bz 7 15) rfl rfl (by kernel_rfl) (by decide) (fun K hK => ?_)
          refine value_ (w1 := ?_) (v := ?_) (by rfl) rfl ?_ ?_
          rotate_left 2
          · go_simp
            constructor
            · rfl
            · rfl
          refine hK.out _ _ ⟨(yG (yN BK113.out _) 0).trans rfl, (yG (yN BK113.out _) 1).trans rfl, (yG (yN BK113.out _) 2).trans rfl, (yG (yN BK113.out _) 3).trans rfl⟩ (fun hHeld => ?_)
          clear hK K
          refine norm_ (a' := ?_) ?_ ?_
          rotate_left
          · show Act.put _ (some 14) _ = _
            simp only [Act.put, zH, zI, zJ, i64_w, i32_w]
            rfl
          refine one_ (i := 4) (N := some 15) (bz 7 31) rfl rfl (by kernel_rfl) (by decide) (fun K hK => ?_)
          refine Kd.R_append_step Kd.string (w0 := w) w.heap.size (by rfl) (.tmp 12) (.tmp 14) 36 9 (.string ⟨#[]⟩) 16 rfl Try.underlying36 info9 rfl (by decide) (by omega) u114000 x114000_1 t114 [.string t114] (fun _ => True) (fun _ => False) rfl rfl ?aP (fun _ hk => hk.elim) ?aF ?aO ?aB ?aS ?aL ?_
          (case aP => exact rfl)
          (case aB => exact (kB HB))
          (case aF => exact (fun _ _ => trivial))
          (case aO => exact (kA HO_114000))
          (case aS => exact (below_size (kB HB)))
          (case aL => have := LMc8.out; omega)
          intro v116 w11 ho hb hg hat
          rw [← Ny115.out] at ho
          have n0_ := yD (blk_grown (g := gb112) (o := .cells #[.slice none 0 0, .slice none 0 0, .int .i64 0, .bool false] 44 (0, 0)) (kM BK112) hg (Kd.R_ne HO_114000.out BK112.out (by decide)))
          have n1_ := yD (blk_grown (g := gb113) (o := .cells #[u114000, .slice none 0 0, .int .i64 (-1), .bool false] 44 (0, 0)) (kM BK113) hg (Kd.R_ne HO_114000.out BK113.out (by decide)))
          have n2_ := yD (hb)
          have n3_ := yD (ho)
          clear BK112 BK113 HB HO_114000; have BK112 := n0_; have BK113 := n1_; have HB := n2_; have HO117 := n3_; clear n0_ n1_ n2_ n3_ ho hb hg hat
          obtain ⟨Ao12, co12, eo12⟩ := Kd.R_slice HO117.out
          (first | subst eo12 | (injection eo12 with f1_ f2_ f3_; have f4_ := f1_.symm; have f5_ := f3_.symm; clear f1_ f2_ f3_; subst f4_; subst f5_))
          refine hK.out _ _ ⟨(yG BK113.out 0).trans rfl, (yG BK113.out 1).trans rfl, (yG BK113.out 2).trans rfl, (yG BK113.out 3).trans rfl⟩ (fun hHeld => ?_)
          clear hK K
          refine norm_ (a' := ?_) ?_ ?_
          rotate_left
          · show Act.put _ (some 15) _ = _
            simp only [Act.put, zH, zI, zJ, i64_w, i32_w]
            rfl
          refine pA 5 16 (bz 7 63) rfl rfl (by kernel_rfl) (fun _ _ _ h => h) (by rfl) (fun _ => by go_simp; with_reducible rfl) (by simp only [Act.put, zH, zI, zJ, i64_w, i32_w]; rfl) ?_
          refine last_ (i := 6) (N := none) #[true, true, true, true, true, true, true] rfl rfl (by kernel_rfl) (by decide) (fun K hK => ?_)
          have hs13 : w11.cell? ⟨gb113, 0, none⟩ = some (u114000) := (yG BK113.out 0).trans rfl
          have hfs13 := yR BK113.out 0
          have hns13_0 := NB112_113.out; have hms13_0 := NB113_112.out
          refine skip_ (w1 := ?_) (by rfl) rfl ?_ ?_
          rotate_left
          · go_simp
            rfl
          refine hK.out _ _ ?_
          clear hK K
          refine done_ (by kernel_rfl) ?_
          try go_wp2
          go_roundg k1
          case measure => have := HK1.out; omega
          case rel => exact ⟨(wrap64 (x4_1 + 1)), (y115), (.slice Ao12 y115.length co12), (by first | rfl | (simp; done) | (simp [*]; done)), H', ⟨by have := HK1.out; omega⟩, ⟨by (with_reducible repeat (first | apply yA | apply yB | apply yC)); exact zF (yF (p := ⟨gb113, 0, none⟩) (Kd.R_types HO117.out BK113.out (by decide)) (fun _ hk => hk.2) (.slice Ao12 y115.length co12)) (fun _ hk => trivial)⟩, ⟨by (with_reducible repeat (first | refine yM ?_ _ | refine yO ?_ | refine yN ?_ _)); refine blk_far ?_ NB112_113.out _; (with_reducible repeat (first | refine yM ?_ _ | refine yO ?_ | refine yN ?_ _)); exact BK112.out⟩, ⟨by (with_reducible repeat (first | refine yM ?_ _ | refine yO ?_ | refine yN ?_ _)); refine blk_put (cs := #[u114000, .slice none 0 0, .int .i64 (-1), .bool false]) ?_ 0 _ rfl; (with_reducible repeat (first | refine yM ?_ _ | refine yO ?_ | refine yN ?_ _)); exact BK113.out⟩, ⟨kR1 HB⟩⟩
        · rw [if_neg c8] at H
          exact absurd H (by simp)
      · rw [if_neg c6] at H
        have c6b0 : decide (x4_1 < a0) = false := zS c6; clear c6
        simp only [Option.some.injEq, Prod.mk.injEq] at H
        obtain ⟨rfl, rfl, rfl, rfl⟩ := H
        have hnb14 := NB113_112.out; have hnc14 := NB112_113.out
        obtain ⟨hcz15_0, hcz15_1, hcz15_2, hcz15_3⟩ := cz4 BK113.out
        obtain ⟨hfz15_0, hfz15_1, hfz15_2, hfz15_3⟩ := fz4 BK113.out
        obtain ⟨Ao16, co16, eo16⟩ := Kd.R_slice HO_114000.out
        subst eo16
        obtain ⟨hcz17_0, hcz17_1, hcz17_2, hcz17_3⟩ := cz4 BK112.out
        obtain ⟨hfz17_0, hfz17_1, hfz17_2, hfz17_3⟩ := fz4 BK112.out
        go_wp2
        refine bodyPost_ret (results_cell_row rfl _ _ gb112 44 #[.slice Ao16 x114000_1.length co16, .slice none 0 0, .int .i64 (-1), .bool false] (0, 0) _ rfl (by (with_reducible repeat (first | refine yM ?_ _ | refine yO ?_ | refine yN ?_ _)); refine blk_put (cs := #[.slice Ao16 x114000_1.length co16, .slice none 0 0, .int .i64 (-1), .bool false]) ?_ 3 _ rfl; (with_reducible repeat (first | refine yM ?_ _ | refine yO ?_ | refine yN ?_ _)); refine blk_put (cs := #[.slice Ao16 x114000_1.length co16, .slice none 0 0, .int .i64 0, .bool false]) ?_ 2 _ rfl; (with_reducible repeat (first | refine yM ?_ _ | refine yO ?_ | refine yN ?_ _)); refine blk_put (cs := #[.slice Ao16 x114000_1.length co16, .slice none 0 0, .int .i64 0, .bool false]) ?_ 1 _ rfl; (with_reducible repeat (first | refine yM ?_ _ | refine yO ?_ | refine yN ?_ _)); refine blk_put (cs := #[.slice none 0 0, .slice none 0 0, .int .i64 0, .bool false]) ?_ 0 _ rfl; (with_reducible repeat (first | refine yM ?_ _ | refine yO ?_ | refine yN ?_ _)); exact BK112.out) Try.underlying44 rfl (by kernel_rfl)) rfl ?_
        exact ⟨_, _, by first | rfl | (simp <;> rfl) | (simp [*] <;> rfl), by (with_reducible repeat (first | apply yA | apply yB | apply yC)); exact zF (yF (p := ⟨gb112, 3, none⟩) (yF (p := ⟨gb112, 2, none⟩) (yF (p := ⟨gb112, 1, none⟩) (yF (p := ⟨gb112, 0, none⟩) (Kd.R_types HO_114000.out BK112.out (by decide)) (fun _ hk => hk.2) (.slice Ao16 x114000_1.length co16)) (fun _ hk => hk.2) (.slice none 0 0)) (fun _ hk => hk.2) (.int .i64 (-1))) (fun _ hk => hk.2) (.bool false)) (fun _ hk => trivial), by first | exact Kd.R_nil _ _ _ _ _ | exact Kd.N_nil _ _ _ _ _ | exact Kd.V_nil _ _ _ _ _ | exact Kd.Q_nil _ _ _ _ _ | exact Kd.S_nil _ _ _ _ _, kR1 HB⟩

/-! ### spec_l00Src_one: function 57 -/
def spec_l00Src_one.f (s0_0 : List Int) (s0_1 : Int) (s0_2 : Int) (a1 : Int) : Option (Bool × Int × Int) := (spec_l00Src_pick.f s0_0 s0_1 s0_2 a1).bind fun bt118 => (some ((bt118.1 == 0), bt118.2.1, bt118.2.2))
set_option maxHeartbeats 8000000 in
set_option maxRecDepth 100000 in
theorem spec_l00Src_one.calls (g : Nat) (s0_0 : List Int) (s0_1 : Int) (s0_2 : Int) (a1 : Int) (r1 : Bool) (r2 : Int) (r3 : Int) (w0 w : World) (hI : IsS92 w0 w g s0_0 s0_1 s0_2) (hB : Below w0.heap.size w0 w) (h : spec_l00Src_one.f s0_0 s0_1 s0_2 a1 = some (r1, r2, r3)) :
    Calls Try.prog 57 #[.pointer (some ⟨g, 0, none⟩), .int .i64 a1] w fun e w' => e = .returned (.bool r1) ∧ IsS92 w0 w' g s0_0 r2 r3 ∧ Below w0.heap.size w0 w' ∧ KeepBut w w' g none := by
  have HI0 := yD hI
  have HK := yD (KeepBut.refl w g none)
  have HL := yD hB.size
  clear hI
  have HW0 := yD hB.size
  have HB := yD hB
  clear hB
  have H : ((spec_l00Src_pick.f s0_0 s0_1 s0_2 a1).bind fun bt118 => (some ((bt118.1 == 0), bt118.2.1, bt118.2.2))) = some (r1, r2, r3) := h
  clear h
  obtain ⟨⟨t118, t119, t120⟩, A30, H⟩ := zW_ H
  replace H : (some ((t118 == 0), t119, t120)) = some (r1, r2, r3) := H
  have A3 := yD A30
  clear A30
  simp only [Option.some.injEq, Prod.mk.injEq] at H
  obtain ⟨rfl, rfl, rfl⟩ := H
  go_enter Try.func57, Try.ntmps57
  go_wp2_with (first | ((with_reducible refine gate_callee (f := 58) rfl ?_); refine goesL_ (some 7) rfl rfl Try.func58 (by kernel_rfl) rfl #[.pointer (some ⟨g, 0, none⟩), .int .i64 a1] rfl (by (try simp only [zK, zL, zM]); first | done | rfl | (simp only [zN, zO]; rfl)) ?_; (with_reducible refine (spec_l00Src_pick.calls g s0_0 s0_1 s0_2 a1 t118 t119 t120 w0 _ ?side1 ?side2 A3.out).mono ?_); (case side1 => exact kR2 HI0); (case side2 => exact kR3 HB); rintro e w4 ⟨rfl, hi, hb, hk⟩; refine ⟨_, rfl, ?_⟩; have n0_ := yD (KeepBut.trans (kR4 HK) hk (.inl rfl)); have n1_ := yD (hb); have n2_ := yD (hi); clear HK; clear HB; clear HI0; have HK := n0_; have HB := n1_; have HI0 := n2_; clear n0_ n1_ n2_; (try clear hb); (try clear hb2); (try clear hk); (try clear hi)))
  go_ret
  exact ⟨by first | rfl | (simp <;> rfl) | (simp [*] <;> rfl), kR2 HI0, kR3 HB, kR4 HK⟩

/-! ### spec_l01Pad: function 102 -/
def spec_l01Pad.f (a0 : ByteArray) (a1 : Int) : Option (ByteArray) := if (a0.size : Int) ≥ a1 then (some a0) else (if 0 ≤ (wrap64 (a1 - (a0.size : Int))) then (if (wrap64 (a1 - (a0.size : Int)) : Int).toNat ≤ 281474976710656 then ((some (List.replicate (wrap64 (a1 - (a0.size : Int)) : Int).toNat 0 : List Int)).bind fun y121 => (if a0.size + (strOfNums y121).size ≤ 9223372036854775807 then (some (a0 ++ (strOfNums y121))) else (none))) else (none)) else (none))
set_option maxHeartbeats 8000000 in
set_option maxRecDepth 100000 in
theorem spec_l01Pad.calls (a0 : ByteArray) (a1 : Int) (r : ByteArray) (w : World) (h : spec_l01Pad.f a0 a1 = some r) :
    Calls Try.prog 102 #[.string a0, .int .i64 a1] w fun e w' => e = .returned (.string r) ∧ Below w.heap.size w w' := by
  have HB := yD (Below.refl w.heap.size w)
  have H : (if (a0.size : Int) ≥ a1 then (some a0) else (if 0 ≤ (wrap64 (a1 - (a0.size : Int))) then (if (wrap64 (a1 - (a0.size : Int)) : Int).toNat ≤ 281474976710656 then ((some (List.replicate (wrap64 (a1 - (a0.size : Int)) : Int).toNat 0 : List Int)).bind fun y121 => (if a0.size + (strOfNums y121).size ≤ 9223372036854775807 then (some (a0 ++ (strOfNums y121))) else (none))) else (none)) else (none))) = some r := h
  clear h
  by_cases c3 : (a0.size : Int) ≥ a1
  · rw [if_pos c3] at H
    have c3b0 : decide (a1 ≤ (a0.size : Int)) = true := zR c3; clear c3; obtain rfl := Option.some.inj H; go_enter Try.func102, Try.ntmps102
    go_wp2
    go_ret
    exact ⟨by first | rfl | (simp <;> rfl) | (simp [*] <;> rfl), kR0 HB⟩
  · rw [if_neg c3] at H
    have c3b0 : decide (a1 ≤ (a0.size : Int)) = false := zS c3; clear c3
    obtain ⟨ji4, hji4⟩ : ∃ j_ : Int, (wrap64 (a1 - (a0.size : Int))) = j_ := ⟨_, rfl⟩
    replace H : (if 0 ≤ (ji4) then (if (ji4 : Int).toNat ≤ 281474976710656 then ((some (List.replicate (ji4 : Int).toNat 0 : List Int)).bind fun y121 => (if a0.size + (strOfNums y121).size ≤ 9223372036854775807 then (some (a0 ++ (strOfNums y121))) else (none))) else (none)) else (none)) = some r := by first | (rw [hji4] at H; exact H) | (simp only [hji4] at H ⊢; exact H)
    have hji4w : (IntKind.i64.wrap (a1 - (a0.size : Int))) = ji4 := (i64_w _).trans hji4
    by_cases c5 : 0 ≤ (ji4)
    · rw [if_pos c5] at H
      have c5b0 := eq_true c5
      have c5b1 : decide (0 ≤ (ji4)) = true := zR c5; clear c5
      by_cases c6 : (ji4 : Int).toNat ≤ 281474976710656
      · rw [if_pos c6] at H
        have c6b0 := eq_true c6
        have c6b1 : decide ((ji4 : Int).toNat ≤ 281474976710656) = true := zR c6; clear c6
        obtain ⟨y121, hy121⟩ : ∃ y_ : List Int, y_ = (List.replicate (ji4 : Int).toNat 0) := ⟨_, rfl⟩
        replace H : (if a0.size + (strOfNums y121).size ≤ 9223372036854775807 then (some (a0 ++ (strOfNums y121))) else (none)) = some r := by first | (rw [hy121]; with_reducible exact H) | (have H2_ := (Option.bind_some _ _).symm.trans H; rw [hy121]; with_reducible exact H2_) | (have H2_ := (Option.bind_some _ _).symm.trans H; with_reducible exact H2_) | with_reducible exact H | (rw [hy121]; exact H) | exact H
        have Ny121 := yD hy121
        clear hy121
        by_cases c7 : a0.size + (strOfNums y121).size ≤ 9223372036854775807
        · rw [if_pos c7] at H
          have c7b0 := eq_true c7
          have c7b1 : decide (a0.size + (strOfNums y121).size ≤ 9223372036854775807) = true := zR c7
          try have c7b2 : (9223372036854775807 < a0.size + (strOfNums y121).size) = False := eq_false (Nat.not_lt.2 c7)
          obtain rfl := Option.some.inj H; go_enter Try.func102, Try.ntmps102
          go_wp2_with (first | ((with_reducible refine gate_dst (N := 15) rfl ?_); refine Kd.R_make (Kd.int .u8) _ 5 rfl (N := 15) rfl 22 _ _ rfl ji4 rfl rfl Try.underlying22 (.int .u8 0) 1 info5 rfl (by decide) (by omega) 0 (ok := fun _ => True) (okp := fun _ => True) rfl (fun _ hk => hk) trivial (zP (by assumption)) (Nat.le_trans (Nat.mul_le_mul_right _ (zP (by assumption) : ji4.toNat ≤ 281474976710656)) (by omega)) (Below.refl _ _) (Nat.le_refl _) ?_; intro v122 w8 ho9 hb hg_ hnew_; clear hg_ hnew_; (first | rw [← Ny121.out] at ho9 | (simp only [Int.reduceToNat] at ho9; rw [← Ny121.out] at ho9)); have n0_ := yD (yZ ho9 (below_size (kB HB))); have n1_ := yD (zC (kB HB) hb); clear HB; have HO123 := n0_; have HB := n1_; clear n0_ n1_; clear hb ho9; have hcv10 := own_string (P := Try.prog) Try.underlying22 Try.underlying5 Try.underlying9 (Kd.own_of_R HO123.out)))
          go_ret
          exact ⟨by first | rfl | (simp [errW_none, errW_some] <;> rfl) | (simp only [← hji4]; first | rfl | (simp [errW_none, errW_some] <;> rfl)) | (simp [*, errW_none, errW_some] <;> rfl), kR0 HB⟩
        · rw [if_neg c7] at H
          exact absurd H (by simp)
      · rw [if_neg c6] at H
        exact absurd H (by simp)
    · rw [if_neg c5] at H
      exact absurd H (by simp)

/-! ### spec_l09DrawBlock: function 87 -/
mutual
def spec_l09DrawBlock.l0 : Nat → Int → List Int → Int → List Int → Int → Int → Option (ByteArray × Int × Int)
  | 0, _, _, _, _, _, _ => none
  | k + 1, x3, x4, x5, x1000, x1001, x1002 => if x5 < x3 then ((spec_l00Src_next.f x1000 x1001 x1002).bind fun bt130 => (if x4.length < 140737488355328 then (spec_l09DrawBlock.l0 k x3 (x4 ++ [(bt130.1) % 256]) (wrap64 (x5 + 1)) x1000 bt130.2.1 bt130.2.2) else (none))) else ((spec_l00Src_one.f x1000 x1001 x1002 3).bind fun bt136 => (if bt136.1 = true then ((spec_l01Pad.f (strOfNums x4) 64).bind fun t139 => (some (t139, bt136.2.1, bt136.2.2))) else (spec_l09DrawBlock.l1 k x3 x4 x1000 bt136.2.1 bt136.2.2)))
def spec_l09DrawBlock.l1 : Nat → Int → List Int → List Int → Int → Int → Option (ByteArray × Int × Int)
  | 0, _, _, _, _, _ => none
  | k + 1, x3, x4, x1000, x1001, x1002 => if (x4.length : Int) < 64 then (if x3 = 0 then (none) else (if 0 ≤ ((x4.length : Int) % x3) then (if ((x4.length : Int) % x3) < (x4.length : Int) then (if x4.length < 140737488355328 then (spec_l09DrawBlock.l1 k x3 (x4 ++ [rd x4 ((x4.length : Int) % x3)]) x1000 x1001 x1002) else (none)) else (none)) else (none))) else (some (strOfNums x4, x1001, x1002))
end
def spec_l09DrawBlock.f (k : Nat) (s0_0 : List Int) (s0_1 : Int) (s0_2 : Int) : Option (ByteArray × Int × Int) := (spec_l00Src_pick.f s0_0 s0_1 s0_2 9).bind fun bt124 => (spec_l09DrawBlock.l0 k (wrap64 (1 + bt124.1)) (([] : List Int)) 0 s0_0 bt124.2.1 bt124.2.2)
theorem spec_l09DrawBlock.mono_l : ∀ k, (∀ y0 y1 y2 y3 y4 y5, LeO (spec_l09DrawBlock.l0 k y0 y1 y2 y3 y4 y5) (spec_l09DrawBlock.l0 (k + 1) y0 y1 y2 y3 y4 y5)) ∧ (∀ y0 y1 y2 y3 y4, LeO (spec_l09DrawBlock.l1 k y0 y1 y2 y3 y4) (spec_l09DrawBlock.l1 (k + 1) y0 y1 y2 y3 y4))
  | 0 => ⟨fun _ _ _ _ _ _ r h => by simp [spec_l09DrawBlock.l0] at h, fun _ _ _ _ _ r h => by simp [spec_l09DrawBlock.l1] at h⟩
  | k + 1 => by
    obtain ⟨ih0, ih1⟩ := spec_l09DrawBlock.mono_l k
    refine ⟨?_, ?_⟩
    · intro y0 y1 y2 y3 y4 y5
      unfold spec_l09DrawBlock.l0
      repeat' first
      | (with_reducible exact ih0 _ _ _ _ _ _)
      | (with_reducible exact ih1 _ _ _ _ _)
      | (with_reducible exact LeO.refl _)
      | (with_reducible exact LeO.none _)
      | (with_reducible refine LeO.ite ?_ ?_)
      | (with_reducible refine LeO.bind ?_ (fun _ => ?_))
      | exact ih0 _ _ _ _ _ _
      | exact ih1 _ _ _ _ _
      | exact LeO.none _
      | refine LeO.ite ?_ ?_
      | refine LeO.bind ?_ (fun _ => ?_)
    · intro y0 y1 y2 y3 y4
      unfold spec_l09DrawBlock.l1
      repeat' first
      | (with_reducible exact ih0 _ _ _ _ _ _)
      | (with_reducible exact ih1 _ _ _ _ _)
      | (with_reducible exact LeO.refl _)
      | (with_reducible exact LeO.none _)
      | (with_reducible refine LeO.ite ?_ ?_)
      | (with_reducible refine LeO.bind ?_ (fun _ => ?_))
      | exact ih0 _ _ _ _ _ _
      | exact ih1 _ _ _ _ _
      | exact LeO.none _
      | refine LeO.ite ?_ ?_
      | refine LeO.bind ?_ (fun _ => ?_)
theorem spec_l09DrawBlock.mono : ∀ a0 a1 a2 k, LeO (spec_l09DrawBlock.f k a0 a1 a2) (spec_l09DrawBlock.f (k + 1) a0 a1 a2) := by
  intro a0 a1 a2 k
  obtain ⟨ih0, ih1⟩ := spec_l09DrawBlock.mono_l k
  unfold spec_l09DrawBlock.f
  repeat' first
      | (with_reducible exact ih0 _ _ _ _ _ _)
      | (with_reducible exact ih1 _ _ _ _ _)
      | (with_reducible exact LeO.refl _)
      | (with_reducible exact LeO.none _)
      | (with_reducible refine LeO.ite ?_ ?_)
      | (with_reducible refine LeO.bind ?_ (fun _ => ?_))
      | exact ih0 _ _ _ _ _ _
      | exact ih1 _ _ _ _ _
      | exact LeO.none _
      | refine LeO.ite ?_ ?_
      | refine LeO.bind ?_ (fun _ => ?_)
set_option maxHeartbeats 8000000 in
set_option maxRecDepth 100000 in
theorem spec_l09DrawBlock.calls (k : Nat) (g : Nat) (s0_0 : List Int) (s0_1 : Int) (s0_2 : Int) (r1 : ByteArray) (r2 : Int) (r3 : Int) (w0 w : World) (hI : IsS92 w0 w g s0_0 s0_1 s0_2) (hB : Below w0.heap.size w0 w) (h : spec_l09DrawBlock.f k s0_0 s0_1 s0_2 = some (r1, r2, r3)) :
    Calls Try.prog 87 #[.pointer (some ⟨g, 0, none⟩)] w fun e w' => e = .returned (.string r1) ∧ IsS92 w0 w' g s0_0 r2 r3 ∧ Below w0.heap.size w0 w' ∧ KeepBut w w' g none := by
  have HI0 := yD hI
  have HK := yD (KeepBut.refl w g none)
  have HL := yD hB.size
  clear hI
  have HW0 := yD hB.size
  have HB := yD hB
  clear hB
  have H : ((spec_l00Src_pick.f s0_0 s0_1 s0_2 9).bind fun bt124 => (spec_l09DrawBlock.l0 k (wrap64 (1 + bt124.1)) (([] : List Int)) 0 s0_0 bt124.2.1 bt124.2.2)) = some (r1, r2, r3) := h
  clear h
  obtain ⟨⟨t124, t125, t126⟩, A20, H⟩ := zW_ H
  replace H : (spec_l09DrawBlock.l0 k (wrap64 (1 + t124)) (([] : List Int)) 0 s0_0 t125 t126) = some (r1, r2, r3) := H
  have A2 := yD A20
  clear A20
  obtain ⟨y127, hy127⟩ : ∃ y_ : List Int, y_ = (([] : List Int)) := ⟨_, rfl⟩
  replace H : (spec_l09DrawBlock.l0 k (wrap64 (1 + t124)) y127 0 s0_0 t125 t126) = some (r1, r2, r3) := by first | (rw [hy127]; with_reducible exact H) | (have H2_ := (Option.bind_some _ _).symm.trans H; rw [hy127]; with_reducible exact H2_) | (have H2_ := (Option.bind_some _ _).symm.trans H; with_reducible exact H2_) | with_reducible exact H | (rw [hy127]; exact H) | exact H
  have Ny127 := yD hy127
  clear hy127
  have H' := yD H
  clear H; go_enter Try.func87, Try.ntmps87
  go_wp2_with (first | ((with_reducible refine gate_callee (f := 58) rfl ?_); refine goesL_ (some 7) rfl rfl Try.func58 (by kernel_rfl) rfl #[.pointer (some ⟨g, 0, none⟩), .int .i64 9] rfl (by (try simp only [zK, zL, zM]); first | done | rfl | (simp only [zN, zO]; rfl)) ?_; (with_reducible refine (spec_l00Src_pick.calls g s0_0 s0_1 s0_2 9 t124 t125 t126 w0 _ ?side1 ?side2 A2.out).mono ?_); (case side1 => exact kR2 HI0); (case side2 => exact kR3 HB); rintro e w3 ⟨rfl, hi, hb, hk⟩; refine ⟨_, rfl, ?_⟩; have n0_ := yD (KeepBut.trans (kR4 HK) hk (.inl rfl)); have n1_ := yD (hb); have n2_ := yD (hi); clear HK; clear HB; clear HI0; have HK := n0_; have HB := n1_; have HI0 := n2_; clear n0_ n1_ n2_; (try clear hb); (try clear hb2); (try clear hk); (try clear hi)) | ((with_reducible refine gate_dst (N := 9) rfl ?_); refine Kd.R_lit (Kd.int .u8) _ 5 ?hg (N := 9) ?hd (xs := ([] : List Int)) (inner := []) (ok := fun _ => True) (okp := fun _ => True) ?hr ?hp (fun _ hk => hk) trivial (Below.refl _ _) (Nat.le_refl _) (by simp) ?_; (case hd => rfl); (case hg => rfl); (case hr => first | (go_simp; done) | (go_simp; rfl)); (case hp => exact (Reps.none _ _)); intro v128 w4 ho5 hb hg_ hnew_; clear hg_ hnew_; (first | rw [← Ny127.out] at ho5 | (simp only [Int.reduceToNat] at ho5; rw [← Ny127.out] at ho5)); have n0_ := yD (yZ ho5 (keep_size (w := w) (g := g) (row := none) (kR4 HK))); have n1_ := yD (IsS92.below (kR2 HI0) hb); have n2_ := yD (KeepBut.trans (kR4 HK) (KeepBut.of_below hb g none) (.inl rfl)); have n3_ := yD (zC (kR3 HB) hb); clear HI0; clear HK; clear HB; have HO129 := n0_; have HI0 := n1_; have HK := n2_; have HB := n3_; clear n0_ n1_ n2_ n3_; clear hb ho5))
  (try simp only [Act.put, zH, zI, zJ])
  go_loopg [4, 5] k (fun kq v4 v5 w' => ∃ (x4_1 : List Int) (x5_1 : Int) (x1001_1 : Int) (x1002_1 : Int), v5 = .int .i64 x5_1 ∧ Aside0 (spec_l09DrawBlock.l0 kq (wrap64 (1 + t124)) x4_1 x5_1 s0_0 x1001_1 x1002_1 = some (r1, r2, r3)) ∧ Aside0 (kq ≤ k) ∧ Aside0 (Kd.R (Kd.int .u8) 5 w' w.heap.size (fun _ => True) v4 x4_1) ∧ Aside0 (IsS92 w0 w' g s0_0 x1001_1 x1002_1) ∧ Aside0 (KeepBut w w' g none) ∧ Aside0 (Below w0.heap.size w0 w'))
  case atStart => exact ⟨(y127), (0), (t125), (t126), (by first | rfl | (simp; done) | (simp [*]; done)), H', ⟨Nat.le_refl _⟩, ⟨by (with_reducible repeat (first | apply yA | apply yB | apply yC)); exact HO129.out⟩, ⟨kR2 HI0⟩, ⟨kR4 HK⟩, ⟨kR3 HB⟩⟩
  case round =>
    clear H'
    try clear p2; try clear c5
    obtain ⟨x4_1, x5_1, x1001_1, x1002_1, rfl, HA, HK1, HO_4, HI0, HK, HB⟩ := hrel
    cases gk with
    | zero => exact absurd HA.out (by simp [spec_l09DrawBlock.l0])
    | succ k1 =>
      have H := HA.out; clear HA
      simp only [spec_l09DrawBlock.l0] at H
      by_cases c6 : x5_1 < (wrap64 (1 + t124))
      · rw [if_pos c6] at H
        have c6b0 : decide (x5_1 < (wrap64 (1 + t124))) = true := zR c6; clear c6
        obtain ⟨⟨t130, t131, t132⟩, A70, H⟩ := zW_ H
        replace H : (if x4_1.length < 140737488355328 then (spec_l09DrawBlock.l0 k1 (wrap64 (1 + t124)) (x4_1 ++ [(t130) % 256]) (wrap64 (x5_1 + 1)) s0_0 t131 t132) else (none)) = some (r1, r2, r3) := H
        have A7 := yD A70
        clear A70
        by_cases c8 : x4_1.length < 140737488355328
        · rw [if_pos c8] at H
          have LMc8 := yD c8
          clear c8
          obtain ⟨y133, hy133⟩ : ∃ y_ : List Int, y_ = (x4_1 ++ [(t130) % 256]) := ⟨_, rfl⟩
          replace H : (spec_l09DrawBlock.l0 k1 (wrap64 (1 + t124)) y133 (wrap64 (x5_1 + 1)) s0_0 t131 t132) = some (r1, r2, r3) := by first | (rw [hy133]; with_reducible exact H) | (have H2_ := (Option.bind_some _ _).symm.trans H; rw [hy133]; with_reducible exact H2_) | (have H2_ := (Option.bind_some _ _).symm.trans H; with_reducible exact H2_) | with_reducible exact H | (rw [hy133]; exact H) | exact H
          have Ny133 := yD hy133
          clear hy133
          have H' := yD H
          clear H
          go_wp2_with (first | ((with_reducible refine gate_callee (f := 90) rfl ?_); refine goesL_ (some 17) rfl rfl Try.func90 (by kernel_rfl) rfl #[.pointer (some ⟨g, 0, none⟩)] rfl (by (try simp only [zK, zL, zM]); first | done | rfl | (simp only [zN, zO]; rfl)) ?_; (with_reducible refine (spec_l00Src_next.calls g s0_0 x1001_1 x1002_1 t130 t131 t132 w0 _ ?side1 ?side2 A7.out).mono ?_); (case side1 => exact kR2 HI0); (case side2 => exact kR3 HB); rintro e w9 ⟨rfl, hi, hb, hk⟩; refine ⟨_, rfl, ?_⟩; have n0_ := yD (zF (Kd.R_keep (IsS92.apart (show IsS92 w0 _ g s0_0 x1001_1 x1002_1 from kR2 HI0) (kA HO_4) (by decide)) hk (fun _ h => h.2)) (fun _ h => h.1)); have n1_ := yD (KeepBut.trans (kR4 HK) hk (.inl rfl)); have n2_ := yD (hb); have n3_ := yD (hi); clear HO_4; clear HK; clear HB; clear HI0; have HO_4 := n0_; have HK := n1_; have HB := n2_; have HI0 := n3_; clear n0_ n1_ n2_ n3_; (try clear hb); (try clear hb2); (try clear hk); (try clear hi)) | ((with_reducible refine gate_builtin (b := .append) (xs := #[.tmp 15, .tmp 19]) rfl ?_); at_builtin; refine Kd.R_append (Kd.int .u8) w.heap.size rfl (.tmp 15) (.tmp 19) 22 5 (.int .u8 0) 1 rfl Try.underlying22 info5 rfl (by decide) (by omega) u4 x4_1 ((t130) % 256) [.int .u8 ((t130) % 256)] (fun _ => True) (fun _ => False) rfl rfl ?aP (fun _ hk => hk.elim) ?aF ?aO (Below.refl _ _) ?aS ?aL ?_; (case aP => exact rfl); (case aF => exact (fun _ _ => trivial)); (case aO => exact (kA HO_4)); (case aS => exact (keep_size (w := w) (g := g) (row := none) (kR4 HK))); (case aL => have := LMc8.out; omega); intro v134 w10 ho hb hg hat; rw [← Ny133.out] at ho; have n0_ := yD (IsS92.grown (kR2 HI0) hg (IsS92.own_ne HI0.out HO_4.out (by decide))); have n1_ := yD (below_weaken (kR3 HB) HL.out hb); have n2_ := yD (KeepBut.trans (kR4 HK) (KeepBut.of_grown hg g) (Kd.R_base2 HO_4.out)); have n3_ := yD (ho); clear HI0; clear HB; clear HK; clear HO_4; have HI0 := n0_; have HB := n1_; have HK := n2_; have HO135 := n3_; clear n0_ n1_ n2_ n3_; clear ho hb hg hat))
          go_roundg k1
          case measure => have := HK1.out; omega
          case rel => exact ⟨(y133), (wrap64 (x5_1 + 1)), (t131), (t132), (by first | rfl | (simp; done) | (simp [*]; done)), H', ⟨by have := HK1.out; omega⟩, ⟨by (with_reducible repeat (first | apply yA | apply yB | apply yC)); exact HO135.out⟩, ⟨kR2 HI0⟩, ⟨kR4 HK⟩, ⟨kR3 HB⟩⟩
        · rw [if_neg c8] at H
          exact absurd H (by simp)
      · rw [if_neg c6] at H
        have c6b0 : decide (x5_1 < (wrap64 (1 + t124))) = false := zS c6; clear c6
        obtain ⟨⟨t136, t137, t138⟩, A110, H⟩ := zW_ H
        replace H : (if t136 = true then ((spec_l01Pad.f (strOfNums x4_1) 64).bind fun t139 => (some (t139, t137, t138))) else (spec_l09DrawBlock.l1 k1 (wrap64 (1 + t124)) x4_1 s0_0 t137 t138)) = some (r1, r2, r3) := H
        have A11 := yD A110
        clear A110
        by_cases c12 : t136 = true
        · subst c12
          have H1 : ((spec_l01Pad.f (strOfNums x4_1) 64).bind fun t139 => (some (t139, t137, t138))) = some (r1, r2, r3) := by rw [if_pos rfl] at H; exact H
          clear H; have H := H1; clear H1
          obtain ⟨t139, A130, H⟩ := zW_ H
          replace H : (some (t139, t137, t138)) = some (r1, r2, r3) := H
          have A13 := yD A130
          clear A130
          simp only [Option.some.injEq, Prod.mk.injEq] at H
          obtain ⟨rfl, rfl, rfl⟩ := H
          go_wp2_with (first | ((with_reducible refine gate_callee (f := 57) rfl ?_); refine goesL_ (some 22) rfl rfl Try.func57 (by kernel_rfl) rfl #[.pointer (some ⟨g, 0, none⟩), .int .i64 3] rfl (by (try simp only [zK, zL, zM]); first | done | rfl | (simp only [zN, zO]; rfl)) ?_; (with_reducible refine (spec_l00Src_one.calls g s0_0 x1001_1 x1002_1 3 true t137 t138 w0 _ ?side1 ?side2 A11.out).mono ?_); (case side1 => exact kR2 HI0); (case side2 => exact kR3 HB); rintro e w14 ⟨rfl, hi, hb, hk⟩; refine ⟨_, rfl, ?_⟩; have n0_ := yD (zF (Kd.R_keep (IsS92.apart (show IsS92 w0 _ g s0_0 x1001_1 x1002_1 from kR2 HI0) (kA HO_4) (by decide)) hk (fun _ h => h.2)) (fun _ h => h.1)); have n1_ := yD (KeepBut.trans (kR4 HK) hk (.inl rfl)); have n2_ := yD (hb); have n3_ := yD (hi); clear HO_4; clear HK; clear HB; clear HI0; have HO_4 := n0_; have HK := n1_; have HB := n2_; have HI0 := n3_; clear n0_ n1_ n2_ n3_; (try clear hb); (try clear hb2); (try clear hk); (try clear hi); have hcv15 := own_string (P := Try.prog) Try.underlying22 Try.underlying5 Try.underlying9 (Kd.own_of_R HO_4.out)) | ((with_reducible refine gate_callee (f := 102) rfl ?_); refine goesL_ (some 25) rfl rfl Try.func102 (by kernel_rfl) rfl #[.string (strOfNums x4_1), .int .i64 64] rfl (by (try simp only [zK, zL, zM]); first | done | rfl | (simp only [zN, zO]; rfl)) ?_; (with_reducible refine (spec_l01Pad.calls (strOfNums x4_1) 64 t139 _ A13.out).mono ?_); rintro e w16 ⟨rfl, hb⟩; refine ⟨_, rfl, ?_⟩; have n0_ := yD (zE (kA HO_4) hb); have n1_ := yD (IsS92.below (kR2 HI0) hb); have n2_ := yD (KeepBut.trans (kR4 HK) (KeepBut.of_below hb g none) (.inl rfl)); have n3_ := yD (zC (kR3 HB) hb); clear HO_4; clear HI0; clear HK; clear HB; have HO_4 := n0_; have HI0 := n1_; have HK := n2_; have HB := n3_; clear n0_ n1_ n2_ n3_; (try clear hb); (try clear hb2); (try clear hk); (try clear hi)))
          go_ret
          exact ⟨by first | rfl | (simp <;> rfl) | (simp [*] <;> rfl), kR2 HI0, kR3 HB, kR4 HK⟩
        · replace c12 := Bool.eq_false_iff.mpr c12
          subst c12
          have H1 : (spec_l09DrawBlock.l1 k1 (wrap64 (1 + t124)) x4_1 s0_0 t137 t138) = some (r1, r2, r3) := by rw [if_neg (show ¬ (false = true) by decide)] at H; exact H
          clear H; have H := H1; clear H1
          have H' := yD H
          clear H
          go_wp2_with (first | ((with_reducible refine gate_callee (f := 57) rfl ?_); refine goesL_ (some 22) rfl rfl Try.func57 (by kernel_rfl) rfl #[.pointer (some ⟨g, 0, none⟩), .int .i64 3] rfl (by (try simp only [zK, zL, zM]); first | done | rfl | (simp only [zN, zO]; rfl)) ?_; (with_reducible refine (spec_l00Src_one.calls g s0_0 x1001_1 x1002_1 3 false t137 t138 w0 _ ?side1 ?side2 A11.out).mono ?_); (case side1 => exact kR2 HI0); (case side2 => exact kR3 HB); rintro e w17 ⟨rfl, hi, hb, hk⟩; refine ⟨_, rfl, ?_⟩; have n0_ := yD (zF (Kd.R_keep (IsS92.apart (show IsS92 w0 _ g s0_0 x1001_1 x1002_1 from kR2 HI0) (kA HO_4) (by decide)) hk (fun _ h => h.2)) (fun _ h => h.1)); have n1_ := yD (KeepBut.trans (kR4 HK) hk (.inl rfl)); have n2_ := yD (hb); have n3_ := yD (hi); clear HO_4; clear HK; clear HB; clear HI0; have HO_4 := n0_; have HK := n1_; have HB := n2_; have HI0 := n3_; clear n0_ n1_ n2_ n3_; (try clear hb); (try clear hb2); (try clear hk); (try clear hi)))
          (try simp only [Act.put, zH, zI, zJ])
          go_loopg [4] k1 (fun kq v4 w' => ∃ (x4_2 : List Int), Aside0 (spec_l09DrawBlock.l1 kq (wrap64 (1 + t124)) x4_2 s0_0 t137 t138 = some (r1, r2, r3)) ∧ Aside0 (kq ≤ k1) ∧ Aside0 (Kd.R (Kd.int .u8) 5 w' w.heap.size (fun _ => True) v4 x4_2) ∧ Aside0 (IsS92 w0 w' g s0_0 t137 t138) ∧ Aside0 (KeepBut w w' g none) ∧ Aside0 (Below w0.heap.size w0 w'))
          case atStart => exact ⟨(x4_1), H', ⟨Nat.le_refl _⟩, ⟨by (with_reducible repeat (first | apply yA | apply yB | apply yC)); exact HO_4.out⟩, ⟨kR2 HI0⟩, ⟨kR4 HK⟩, ⟨kR3 HB⟩⟩
          case round =>
            clear H'
            try clear c1; try clear hcv1; try clear p2; try clear c5; try clear c6; try clear c6b0; try clear p6; try clear c8; try clear c9; try clear c10; try clear c12; try clear hcv15; try clear p2
            obtain ⟨x4_2, HA, HK2, HO_4, HI0, HK, HB⟩ := hrel
            cases gk with
            | zero => exact absurd HA.out (by simp [spec_l09DrawBlock.l1])
            | succ k2 =>
              have H := HA.out; clear HA
              simp only [spec_l09DrawBlock.l1] at H
              by_cases c18 : (x4_2.length : Int) < 64
              · rw [if_pos c18] at H
                have c18b0 : decide ((x4_2.length : Int) < 64) = true := zR c18
                have c18b1 : decide (x4_2.length < 64) = true := zR (by omega)
                clear c18
                by_cases c19 : (wrap64 (1 + t124)) = 0
                · rw [if_pos c19] at H
                  exact absurd H (by simp)
                · rw [if_neg c19] at H
                  have c19b0 : ((wrap64 (1 + t124)) == 0) = false := beq_eq_false_iff_ne.mpr c19
                  have c19b1 : ((wrap64 (1 + t124)) != 0) = true := bne_iff_ne.mpr c19
                  obtain ⟨ji20, hji20⟩ : ∃ j_ : Int, ((x4_2.length : Int) % (wrap64 (1 + t124))) = j_ := ⟨_, rfl⟩
                  replace H : (if 0 ≤ (ji20) then (if (ji20) < (x4_2.length : Int) then (if x4_2.length < 140737488355328 then (spec_l09DrawBlock.l1 k2 (wrap64 (1 + t124)) (x4_2 ++ [rd x4_2 (ji20)]) s0_0 t137 t138) else (none)) else (none)) else (none)) = some (r1, r2, r3) := by first | (rw [hji20] at H; exact H) | (simp only [hji20] at H ⊢; exact H)
                  by_cases c21 : 0 ≤ (ji20)
                  · rw [if_pos c21] at H
                    have c21b0 : decide (0 ≤ (ji20)) = true := zR c21; clear c21
                    by_cases c22 : (ji20) < (x4_2.length : Int)
                    · rw [if_pos c22] at H
                      have c22b0 : decide ((ji20) < (x4_2.length : Int)) = true := zR c22; clear c22
                      by_cases c23 : x4_2.length < 140737488355328
                      · rw [if_pos c23] at H
                        have LMc23 := yD c23
                        clear c23
                        obtain ⟨y141, hy141⟩ : ∃ y_ : List Int, y_ = (x4_2 ++ [rd x4_2 (ji20)]) := ⟨_, rfl⟩
                        replace H : (spec_l09DrawBlock.l1 k2 (wrap64 (1 + t124)) y141 s0_0 t137 t138) = some (r1, r2, r3) := by first | (rw [hy141]; with_reducible exact H) | (have H2_ := (Option.bind_some _ _).symm.trans H; rw [hy141]; with_reducible exact H2_) | (have H2_ := (Option.bind_some _ _).symm.trans H; with_reducible exact H2_) | with_reducible exact H | (rw [hy141]; exact H) | exact H
                        have Ny141 := yD hy141
                        clear hy141
                        have H' := yD H
                        clear H
                        obtain ⟨Ao24, co24, eo24⟩ := Kd.R_slice HO_4.out
                        subst eo24
                        have p140 : 0 ≤ ((ji20) : Int) := zP (by assumption)
                        have q140 : (ji20) < (x4_2.length : Int) := zP (by assumption)
                        obtain ⟨ad140, e140, hx140_0⟩ := Kd.at_int (zA HO_4.out).2.2 (ji20) p140 q140
                        cases e140; replace p140 := eq_true p140; replace q140 := eq_true q140
                        go_wp2_with (first | ((with_reducible refine gate_builtin (b := .append) (xs := #[.tmp 29, .tmp 37]) rfl ?_); at_builtin; refine Kd.R_append (Kd.int .u8) w.heap.size rfl (.tmp 29) (.tmp 37) 22 5 (.int .u8 0) 1 rfl Try.underlying22 info5 rfl (by decide) (by omega) (.slice (some ad140) x4_2.length co24) x4_2 (rd x4_2 (ji20)) [.int .u8 (rd x4_2 (ji20))] (fun _ => True) (fun _ => False) rfl rfl ?aP (fun _ hk => hk.elim) ?aF ?aO (Below.refl _ _) ?aS ?aL ?_; (case aP => exact rfl); (case aF => exact (fun _ _ => trivial)); (case aO => exact (kA HO_4)); (case aS => exact (keep_size (w := w) (g := g) (row := none) (kR4 HK))); (case aL => have := LMc23.out; omega); intro v142 w25 ho hb hg hat; rw [← Ny141.out] at ho; have n0_ := yD (IsS92.grown (kR2 HI0) hg (IsS92.own_ne HI0.out HO_4.out (by decide))); have n1_ := yD (below_weaken (kR3 HB) HL.out hb); have n2_ := yD (KeepBut.trans (kR4 HK) (KeepBut.of_grown hg g) (Kd.R_base2 HO_4.out)); have n3_ := yD (ho); clear HI0; clear HB; clear HK; clear HO_4; have HI0 := n0_; have HB := n1_; have HK := n2_; have HO143 := n3_; clear n0_ n1_ n2_ n3_; clear ho hb hg hat))
                        go_roundg k2
                        case measure => have := HK1.out; have := HK2.out; omega
                        case rel => exact ⟨(y141), H', ⟨by have := HK1.out; have := HK2.out; omega⟩, ⟨by (with_reducible repeat (first | apply yA | apply yB | apply yC)); exact HO143.out⟩, ⟨kR2 HI0⟩, ⟨kR4 HK⟩, ⟨kR3 HB⟩⟩
                      · rw [if_neg c23] at H
                        exact absurd H (by simp)
                    · rw [if_neg c22] at H
                      exact absurd H (by simp)
                  · rw [if_neg c21] at H
                    exact absurd H (by simp)
              · rw [if_neg c18] at H
                have c18b0 : decide ((x4_2.length : Int) < 64) = false := zS c18
                have c18b1 : decide (x4_2.length < 64) = false := zS (by omega)
                clear c18
                simp only [Option.some.injEq, Prod.mk.injEq] at H
                obtain ⟨rfl, rfl, rfl⟩ := H
                obtain ⟨Ao26, co26, eo26⟩ := Kd.R_slice HO_4.out
                subst eo26
                have hcv27 := own_string (P := Try.prog) Try.underlying22 Try.underlying5 Try.underlying9 (Kd.own_of_R HO_4.out)
                go_wp2
                go_ret
                exact ⟨by first | rfl | (simp <;> rfl) | (simp [*] <;> rfl), kR2 HI0, kR3 HB, kR4 HK⟩

/-! ### spec_l00Src_among: function 60 -/
def spec_l00Src_among.f (s0_0 : List Int) (s0_1 : Int) (s0_2 : Int) (l1 : List Int) : Option (Int × Int × Int) := (spec_l00Src_pick.f s0_0 s0_1 s0_2 (l1.length : Int)).bind fun bt144 => (if 0 ≤ bt144.1 then (if bt144.1 < (l1.length : Int) then (some (rd l1 bt144.1, bt144.2.1, bt144.2.2)) else (none)) else (none))
set_option maxHeartbeats 8000000 in
set_option maxRecDepth 100000 in
theorem spec_l00Src_among.calls (g : Nat) (s0_0 : List Int) (s0_1 : Int) (s0_2 : Int) (A1 : Option Addr) (c1 : Nat) (l1 : List Int) (r1 : Int) (r2 : Int) (r3 : Int) (w0 w : World) (hI : IsS92 w0 w g s0_0 s0_1 s0_2) (hB : Below w0.heap.size w0 w) (hr1 : Kd.C (Kd.int .i64) w A1 l1.length l1) (hc1 : l1.length ≤ c1) (hf1 : ∀ ad, A1 = some ad → 0 < l1.length → ad.block ≠ g) (h : spec_l00Src_among.f s0_0 s0_1 s0_2 l1 = some (r1, r2, r3)) :
    Calls Try.prog 60 #[.pointer (some ⟨g, 0, none⟩), .slice A1 l1.length c1] w fun e w' => e = .returned (.int .i64 r1) ∧ IsS92 w0 w' g s0_0 r2 r3 ∧ Below w0.heap.size w0 w' ∧ KeepBut w w' g none := by
  have HR1 := yD hr1
  have HC1 := yD hc1
  clear hr1 hc1
  have HI0 := yD hI
  have HK := yD (KeepBut.refl w g none)
  have HL := yD hB.size
  clear hI
  have HW0 := yD hB.size
  have HB := yD hB
  clear hB
  have H : ((spec_l00Src_pick.f s0_0 s0_1 s0_2 (l1.length : Int)).bind fun bt144 => (if 0 ≤ bt144.1 then (if bt144.1 < (l1.length : Int) then (some (rd l1 bt144.1, bt144.2.1, bt144.2.2)) else (none)) else (none))) = some (r1, r2, r3) := h
  clear h
  obtain ⟨⟨t144, t145, t146⟩, A30, H⟩ := zW_ H
  replace H : (if 0 ≤ t144 then (if t144 < (l1.length : Int) then (some (rd l1 t144, t145, t146)) else (none)) else (none)) = some (r1, r2, r3) := H
  have A3 := yD A30
  clear A30
  by_cases c4 : 0 ≤ t144
  · rw [if_pos c4] at H
    have c4b0 : decide (0 ≤ t144) = true := zR c4; clear c4
    by_cases c5 : t144 < (l1.length : Int)
    · rw [if_pos c5] at H
      have c5b0 : decide (t144 < (l1.length : Int)) = true := zR c5; clear c5
      simp only [Option.some.injEq, Prod.mk.injEq] at H
      obtain ⟨rfl, rfl, rfl⟩ := H
      go_enter Try.func60, Try.ntmps60
      go_wp2_with (first | ((with_reducible refine gate_callee (f := 58) rfl ?_); refine goesL_ (some 9) rfl rfl Try.func58 (by kernel_rfl) rfl #[.pointer (some ⟨g, 0, none⟩), .int .i64 (l1.length : Int)] rfl (by (try simp only [zK, zL, zM]); first | done | rfl | (simp only [zN, zO]; rfl)) ?_; (with_reducible refine (spec_l00Src_pick.calls g s0_0 s0_1 s0_2 (l1.length : Int) t144 t145 t146 w0 _ ?side1 ?side2 A3.out).mono ?_); (case side1 => exact kR2 HI0); (case side2 => exact kR3 HB); rintro e w6 ⟨rfl, hi, hb, hk⟩; refine ⟨_, rfl, ?_⟩; have n0_ := yD (KeepBut.trans (kR4 HK) hk (.inl rfl)); have n1_ := yD (hb); have n2_ := yD (hi); clear HK; clear HB; clear HI0; have HK := n0_; have HB := n1_; have HI0 := n2_; clear n0_ n1_ n2_; (try clear hb); (try clear hb2); (try clear hk); (try clear hi); have p147 : 0 ≤ (t144 : Int) := zP (by assumption); have q147 : t144 < (l1.length : Int) := zP (by assumption); obtain ⟨ad147, e147, hx147_0⟩ := Kd.at_int HR1.out t144 p147 q147; cases e147; replace hx147_0 := keep_cell HK.out hx147_0 (by first | (rw [add_block]; exact hf1 _ rfl (by omega)) | exact hf1 _ rfl (by omega) | exact hf1 ad147 rfl (by omega)); replace p147 := eq_true p147; replace q147 := eq_true q147))
      go_ret
      exact ⟨by first | rfl | (simp <;> rfl) | (simp [*] <;> rfl), kR2 HI0, kR3 HB, kR4 HK⟩
    · rw [if_neg c5] at H
      exact absurd H (by simp)
  · rw [if_neg c4] at H
    exact absurd H (by simp)

end Go.Proofs.Ytgpkkplabnliiaa.PFnCuts
