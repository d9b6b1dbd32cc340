/- Each Go function here comes to what the plain function of its name says, where that says something. Made by a program of this session, over the print. -/
import Derived.Test.YtfblodggimjoaaaPFnMergedx0
namespace Go.Proofs.Ytfblodggimjoaaa.PFnMerged
open Go.RowKit Go.Proofs.YtfblodggimjoaaaW.PrintWords Go.Proofs.YtfblodggimjoaaaW.PrintLast Go.Proofs.YtfblodggimjoaaaW.PrintMore
attribute [local go_sem] max2_int min2_int max_two min_two max_three min_three max_four min_four   -- for this text's walks alone
set_option linter.unusedVariables false
set_option linter.unusedSimpArgs false

/-! ### laws_b10Long: function 19 -/
def laws_b10Long.f (l0 : List Int) : Option (Bool) := some (decide ((l0.length : Int) > 1048576))
set_option maxHeartbeats 8000000 in
set_option maxRecDepth 100000 in
theorem laws_b10Long.calls (A0 : Option Addr) (c0 : Nat) (l0 : List Int) (r : Bool) (w : World) (hr0 : Kd.C (Kd.int .u8) w A0 l0.length l0) (hc0 : l0.length ≤ c0) (h : laws_b10Long.f l0 = some r) :
 Calls Try.prog 19 #[.slice A0 l0.length c0] w fun e w' => e = .returned (.bool r) ∧ Drawn0 w w' := by
 have HR0 := yD hr0
 have HC0 := yD hc0
 clear hr0 hc0
 have H : (some (decide ((l0.length : Int) > 1048576))) = some r := h
 clear h; obtain rfl := Option.some.inj H; go_enter Try.func19, Try.ntmps19
 go_wp2
 go_ret
 exact ⟨by first | rfl | (simp; done) | (simp [*]; done), by repeat (first | exact Drawn0.refl _ | apply Drawn0.step)⟩

/-- A state of type 99 at block g of W; what its slices lead to came in by w0. -/
def IsS99 (w0 W : World) (g : Nat) (f0 : List Int) (f1 : Int) (f2 : Int) : Prop := ∃ A0 c0, W.heap[g]? = some (.cells #[.slice A0 f0.length c0, .int .i64 f1, .int .u64 f2] 99 (0, 0)) ∧ w0.heap.size ≤ g ∧ Kd.C (Kd.int .u8) w0 A0 f0.length f0
theorem IsS99.grown {w0 W : World} {g : Nat} {f0 : List Int} {f1 : Int} {f2 : Int} {W1 : World} {row : Option Nat} (h : IsS99 w0 W g f0 f1 f2) (hw : W.grownBy W1 row) (hne : some g ≠ row) : IsS99 w0 W1 g f0 f1 f2 := by
 obtain ⟨A0, c0, hb, hg, hr0⟩ := h
 exact ⟨A0, c0, blk_grown hb hw hne, hg, hr0⟩
theorem IsS99.own_neN {w0 W : World} {g : Nat} {f0 : List Int} {f1 : Int} {f2 : Int} {α : Type} {d : Kd α} {e : Nat} {base : Nat} {ok : Nat → Prop} {v : Value} {xs : List α} (h : IsS99 w0 W g f0 f1 f2) (ho : Kd.N d e W base ok v xs) (ht : e ≠ 99) : some g ≠ v.ownBlock := by
 obtain ⟨A0, c0, hb, hg, hr0⟩ := h
 exact Kd.N_ne ho hb ht
theorem IsS99.fresh {w0 W : World} {g : Nat} {f0 : List Int} {f1 : Int} {f2 : Int} (h : IsS99 w0 W g f0 f1 f2) : ∀ k, W.heap.size ≤ k → k ≠ g := by
 obtain ⟨A0, c0, hb, hg, hr0⟩ := h
 exact Kd.freshB hb
theorem IsS99.kept {w0 W : World} {g : Nat} {f0 : List Int} {f1 : Int} {f2 : Int} {W1 : World} {S : Nat → Prop} (h : IsS99 w0 W g f0 f1 f2) (hk : Kept W W1 S) (hne : ¬ S g) : IsS99 w0 W1 g f0 f1 f2 := by
 obtain ⟨A0, c0, hb, hg, hr0⟩ := h
 exact ⟨A0, c0, blk_kept hb hk hne, hg, hr0⟩
theorem IsS99.below {w0 W : World} {g : Nat} {f0 : List Int} {f1 : Int} {f2 : Int} {W1 : World} (h : IsS99 w0 W g f0 f1 f2) (hw : Below W.heap.size W W1) : IsS99 w0 W1 g f0 f1 f2 := h.grown (grown_of_below hw none) (by simp)
theorem IsS99.alloc {w0 W : World} {g : Nat} {f0 : List Int} {f1 : Int} {f2 : Int} (h : IsS99 w0 W g f0 f1 f2) (o : Obj) : IsS99 w0 (W.alloc o) g f0 f1 f2 := h.below (below_alloc (Below.refl _ _) o)
theorem IsS99.drewN {w0 W : World} {g : Nat} {f0 : List Int} {f1 : Int} {f2 : Int} (h : IsS99 w0 W g f0 f1 f2) (m : Nat) : IsS99 w0 (W.drewN m) g f0 f1 f2 := h
theorem IsS99.drew {w0 W : World} {g : Nat} {f0 : List Int} {f1 : Int} {f2 : Int} (h : IsS99 w0 W g f0 f1 f2) : IsS99 w0 W.drew g f0 f1 f2 := h
theorem IsS99.at_ {w0 W : World} {g : Nat} {f0 : List Int} {f1 : Int} {f2 : Int} {w' : World} {m : Nat} (hq : W.drewN m = w') (h : IsS99 w0 W g f0 f1 f2) : IsS99 w0 w' g f0 f1 f2 := by subst hq; exact IsS99.drewN h m
theorem IsS99.apart {w0 W : World} {g : Nat} {f0 : List Int} {f1 : Int} {f2 : Int} {α : Type} {d : Kd α} {e : Nat} {base : Nat} {ok : Nat → Prop} {v : Value} {xs : List α} (h : IsS99 w0 W g f0 f1 f2) (ho : d.R e W base ok v xs) (ht : ∀ q, q ∈ e :: d.E → q ≠ 99) : d.R e W base (fun k => ok k ∧ k ≠ g) v xs := by
 obtain ⟨A0, c0, hb, hg, hr0⟩ := h
 exact Kd.R_types ho hb ht
theorem IsS99.own_ne {w0 W : World} {g : Nat} {f0 : List Int} {f1 : Int} {f2 : Int} {α : Type} {d : Kd α} {e : Nat} {base : Nat} {ok : Nat → Prop} {v : Value} {xs : List α} (h : IsS99 w0 W g f0 f1 f2) (ho : d.R e W base ok v xs) (ht : e ≠ 99) : some g ≠ v.ownBlock := by
 obtain ⟨A0, c0, hb, hg, hr0⟩ := h
 exact Kd.R_ne ho hb ht
theorem IsS99.apartQ {w0 W : World} {g : Nat} {f0 : List Int} {f1 : Int} {f2 : Int} {α : Type} {d : Kd α} {e : Nat} {base : Nat} {ok : Nat → Prop} {v : Value} {xs : List α} (h : IsS99 w0 W g f0 f1 f2) (ho : d.Q e W base ok v xs) (ht : ∀ q, q ∈ e :: d.E → q ≠ 99) : d.Q e W base (fun k => ok k ∧ k ≠ g) v xs := by
 obtain ⟨A0, c0, hb, hg, hr0⟩ := h
 exact Kd.Q_types ho hb ht
theorem IsS99.own_neQ {w0 W : World} {g : Nat} {f0 : List Int} {f1 : Int} {f2 : Int} {α : Type} {d : Kd α} {e : Nat} {base : Nat} {ok : Nat → Prop} {v : Value} {xs : List α} (h : IsS99 w0 W g f0 f1 f2) (ho : d.Q e W base ok v xs) (ht : e ≠ 99) : some g ≠ v.ownBlock := by
 obtain ⟨A0, c0, hb, hg, hr0⟩ := h
 exact Kd.Q_ne ho hb ht
theorem IsS99.apartS {w0 W : World} {g : Nat} {f0 : List Int} {f1 : Int} {f2 : Int} {α : Type} {d : Kd α} {e : Nat} {base : Nat} {ok : Nat → Prop} {v : Value} {xs : List α} (h : IsS99 w0 W g f0 f1 f2) (ho : d.S e W base ok v xs) (ht : ∀ q, q ∈ e :: d.E → q ≠ 99) : d.S e W base (fun k => ok k ∧ k ≠ g) v xs := by
 obtain ⟨A0, c0, hb, hg, hr0⟩ := h
 exact Kd.S_types ho hb ht
theorem IsS99.own_neS {w0 W : World} {g : Nat} {f0 : List Int} {f1 : Int} {f2 : Int} {α : Type} {d : Kd α} {e : Nat} {base : Nat} {ok : Nat → Prop} {v : Value} {xs : List α} (h : IsS99 w0 W g f0 f1 f2) (ho : d.S e W base ok v xs) (ht : e ≠ 99) : some g ≠ v.ownBlock := by
 obtain ⟨A0, c0, hb, hg, hr0⟩ := h
 exact Kd.S_ne ho hb ht
theorem IsS99.lt {w0 W : World} {g : Nat} {f0 : List Int} {f1 : Int} {f2 : Int} (h : IsS99 w0 W g f0 f1 f2) : g < W.heap.size := by
 obtain ⟨A0, c0, hb, hg, hr0⟩ := h
 exact blk_lt hb
theorem IsS99.ge {w0 W : World} {g : Nat} {f0 : List Int} {f1 : Int} {f2 : Int} (h : IsS99 w0 W g f0 f1 f2) : w0.heap.size ≤ g := by
 obtain ⟨A0, c0, hb, hg, hr0⟩ := h
 exact hg
theorem IsS99.ne_blk {w0 W : World} {g : Nat} {f0 : List Int} {f1 : Int} {f2 : Int} {a : Nat} {cs : Array Value} {t : TypeId} {fr : Nat × Nat} (h : IsS99 w0 W g f0 f1 f2) (hb2 : W.heap[a]? = some (.cells cs t fr)) (ht : t ≠ 99) : g ≠ a := by
 obtain ⟨A0, c0, hb, hg, hr0⟩ := h
 rintro rfl
 rw [hb] at hb2
 injection hb2 with hb2
 injection hb2 with _ ht2
 exact ht ht2.symm
theorem IsS99.far {w0 W : World} {g : Nat} {f0 : List Int} {f1 : Int} {f2 : Int} {p : Addr} (h : IsS99 w0 W g f0 f1 f2) (hne : g ≠ p.block) (u : Value) : IsS99 w0 (W.setCell p u) g f0 f1 f2 := by
 obtain ⟨A0, c0, hb, hg, hr0⟩ := h
 exact ⟨A0, c0, blk_far hb hne u, hg, hr0⟩
theorem cellS99_0 {W : World} {g : Nat} {A0 : Option Addr} {c0 : Nat} {f0 : List Int} {f1 : Int} {f2 : Int} (h : W.heap[g]? = some (.cells #[.slice A0 f0.length c0, .int .i64 f1, .int .u64 f2] 99 (0, 0))) : W.cell? ⟨g, 0, none⟩ = some (.slice A0 f0.length c0) := (blk_cell h 0).trans rfl
theorem cellS99_1 {W : World} {g : Nat} {A0 : Option Addr} {c0 : Nat} {f0 : List Int} {f1 : Int} {f2 : Int} (h : W.heap[g]? = some (.cells #[.slice A0 f0.length c0, .int .i64 f1, .int .u64 f2] 99 (0, 0))) : W.cell? ⟨g, 1, none⟩ = some (.int .i64 f1) := (blk_cell h 1).trans rfl
theorem IsS99.set_1 {w0 W : World} {g : Nat} {f0 : List Int} {f1 : Int} {f2 : Int} (h : IsS99 w0 W g f0 f1 f2) (x : Int) : IsS99 w0 (W.setCell ⟨g, 1, none⟩ (.int .i64 x)) g f0 x f2 := by
 obtain ⟨A0, c0, hb, hg, hr0⟩ := h
 exact ⟨A0, c0, by simpa using blk_set hb 1 (.int .i64 x), hg, hr0⟩
theorem cellS99_2 {W : World} {g : Nat} {A0 : Option Addr} {c0 : Nat} {f0 : List Int} {f1 : Int} {f2 : Int} (h : W.heap[g]? = some (.cells #[.slice A0 f0.length c0, .int .i64 f1, .int .u64 f2] 99 (0, 0))) : W.cell? ⟨g, 2, none⟩ = some (.int .u64 f2) := (blk_cell h 2).trans rfl
theorem IsS99.set_2 {w0 W : World} {g : Nat} {f0 : List Int} {f1 : Int} {f2 : Int} (h : IsS99 w0 W g f0 f1 f2) (x : Int) : IsS99 w0 (W.setCell ⟨g, 2, none⟩ (.int .u64 x)) g f0 f1 x := by
 obtain ⟨A0, c0, hb, hg, hr0⟩ := h
 exact ⟨A0, c0, by simpa using blk_set hb 2 (.int .u64 x), hg, hr0⟩
theorem IsS99.new (w0 W : World) (A0 : Option Addr) (c0 : Nat) (f0 : List Int) (f1 : Int) (f2 : Int) (hB : Below w0.heap.size w0 W) (hr0 : Kd.C (Kd.int .u8) w0 A0 f0.length f0) : IsS99 w0 (W.alloc (.cells #[.slice A0 f0.length c0, .int .i64 f1, .int .u64 f2] 99)) W.heap.size f0 f1 f2 := ⟨A0, c0, by simpa using heap_alloc_new W _, hB.size, hr0⟩

/-! ### spec_l00From: function 56 -/
def spec_l00From.f (l0 : List Int) : Option (List Int × Int × Int) := some (l0, 0, 0)
set_option maxHeartbeats 8000000 in
set_option maxRecDepth 100000 in
theorem spec_l00From.calls (A0 : Option Addr) (c0 : Nat) (l0 : List Int) (r1 : List Int) (r2 : Int) (r3 : Int) (w0 w : World) (hB : Below w0.heap.size w0 w) (hr0 : Kd.C (Kd.int .u8) w0 A0 l0.length l0) (hc0 : l0.length ≤ c0) (h : spec_l00From.f l0 = some (r1, r2, r3)) :
 Calls Try.prog 56 #[.slice A0 l0.length c0] w fun e w' => ∃ g_ : Nat, e = .returned (.pointer (some ⟨g_, 0, none⟩)) ∧ IsS99 w0 w' g_ r1 r2 r3 ∧ Below w0.heap.size w0 w' ∧ Below w.heap.size w w' := by
 have hu99 := Try.underlying99
 have HR0 := yD hr0
 have HC0 := yD hc0
 clear hr0 hc0
 have HBW := yD (Below.refl w.heap.size w)
 have HW0 := yD hB.size
 have HB := yD hB
 clear hB
 have H : (some (l0, 0, 0)) = some (r1, r2, r3) := h
 clear h
 simp only [Option.some.injEq, Prod.mk.injEq] at H
 obtain ⟨rfl, rfl, rfl⟩ := H
 go_enter Try.func56, Try.ntmps56
 go_wp2_with (first | ((with_reducible refine gate_dst (N := 5) rfl ?_); refine box_event ?hg (N := 5) ?hd (cs := #[.slice A0 l0.length c0, .int .i64 0, .int .u64 0]) (t := 99) ?hr ?_; (case hd => rfl); (case hg => rfl); (case hr => first | (go_simp; done) | (go_simp; rfl)); intro gb101 hg w2 hbox hb; replace HB := yD (zC (kB HB) hb); have BK101 := yD (hbox); have GW101 := yD ((by rw [hg]; exact (below_size (kR0 HBW)) : w.heap.size ≤ gb101)); have GE101 := yD ((Nat.le_trans HW0.out (by rw [hg]; exact (below_size (kR0 HBW)) : w.heap.size ≤ gb101) : w0.heap.size ≤ gb101)); replace HBW := yD (zC HBW.out hb); clear hb hbox hg))
 go_ret
 exact ⟨_, rfl, (show IsS99 w0 _ gb101 l0 0 0 from ⟨_, _, kM BK101, GE101.out, HR0.out⟩), kR1 HB, kR1 HBW⟩

/-! ### spec_l00Src_next: function 79 -/
def spec_l00Src_next.f (s0_0 : List Int) (s0_1 : Int) (s0_2 : Int) : Option (Int × Int × Int) := if s0_1 < (s0_0.length : Int) then (if 0 ≤ s0_1 then (if (wrap64 (s0_1 + 1)) ≤ (s0_0.length : Int) then (some (wrap64 (rd s0_0 s0_1), wrap64 (s0_1 + 1), IntKind.u64.wrap ((IntKind.u64.wrap ((IntKind.u64.wrap (s0_2 * 6364136223846793005)) + (IntKind.u64.wrap (wrap64 (rd s0_0 s0_1))))) + 1442695040888963407))) else (some (wrap64 (Go.bits .and .u64 ((IntKind.u64.wrap ((IntKind.u64.wrap ((IntKind.u64.wrap (s0_2 * 6364136223846793005)) + (IntKind.u64.wrap (wrap64 (rd s0_0 s0_1))))) + 1442695040888963407)) / 1099511627776) 255), wrap64 (s0_1 + 1), IntKind.u64.wrap ((IntKind.u64.wrap ((IntKind.u64.wrap (s0_2 * 6364136223846793005)) + (IntKind.u64.wrap (wrap64 (rd s0_0 s0_1))))) + 1442695040888963407)))) else (none)) else (if (wrap64 (s0_1 + 1)) ≤ (s0_0.length : Int) then (some (0, wrap64 (s0_1 + 1), IntKind.u64.wrap ((IntKind.u64.wrap (IntKind.u64.wrap (s0_2 * 6364136223846793005))) + 1442695040888963407))) else (some (wrap64 (Go.bits .and .u64 ((IntKind.u64.wrap ((IntKind.u64.wrap (IntKind.u64.wrap (s0_2 * 6364136223846793005))) + 1442695040888963407)) / 1099511627776) 255), wrap64 (s0_1 + 1), IntKind.u64.wrap ((IntKind.u64.wrap (IntKind.u64.wrap (s0_2 * 6364136223846793005))) + 1442695040888963407))))
set_option maxHeartbeats 8000000 in
set_option maxRecDepth 100000 in
theorem spec_l00Src_next.calls (g : Nat) (s0_0 : List Int) (s0_1 : Int) (s0_2 : Int) (r1 : Int) (r2 : Int) (r3 : Int) (w0 w : World) (hI : IsS99 w0 w g s0_0 s0_1 s0_2) (hB : Below w0.heap.size w0 w) (h : spec_l00Src_next.f s0_0 s0_1 s0_2 = some (r1, r2, r3)) :
 Calls Try.prog 79 #[.pointer (some ⟨g, 0, none⟩)] w fun e w' => e = .returned (.int .i64 r1) ∧ IsS99 w0 w' g s0_0 r2 r3 ∧ Below w0.heap.size w0 w' ∧ KeepBut w w' g none := by
 have HI0 := yD hI
 have HK := yD (KeepBut.refl w g none)
 have HL := yD hB.size
 clear hI
 have HW0 := yD hB.size
 have HB := yD hB
 clear hB
 have H : (if s0_1 < (s0_0.length : Int) then (if 0 ≤ s0_1 then (if (wrap64 (s0_1 + 1)) ≤ (s0_0.length : Int) then (some (wrap64 (rd s0_0 s0_1), wrap64 (s0_1 + 1), IntKind.u64.wrap ((IntKind.u64.wrap ((IntKind.u64.wrap (s0_2 * 6364136223846793005)) + (IntKind.u64.wrap (wrap64 (rd s0_0 s0_1))))) + 1442695040888963407))) else (some (wrap64 (Go.bits .and .u64 ((IntKind.u64.wrap ((IntKind.u64.wrap ((IntKind.u64.wrap (s0_2 * 6364136223846793005)) + (IntKind.u64.wrap (wrap64 (rd s0_0 s0_1))))) + 1442695040888963407)) / 1099511627776) 255), wrap64 (s0_1 + 1), IntKind.u64.wrap ((IntKind.u64.wrap ((IntKind.u64.wrap (s0_2 * 6364136223846793005)) + (IntKind.u64.wrap (wrap64 (rd s0_0 s0_1))))) + 1442695040888963407)))) else (none)) else (if (wrap64 (s0_1 + 1)) ≤ (s0_0.length : Int) then (some (0, wrap64 (s0_1 + 1), IntKind.u64.wrap ((IntKind.u64.wrap (IntKind.u64.wrap (s0_2 * 6364136223846793005))) + 1442695040888963407))) else (some (wrap64 (Go.bits .and .u64 ((IntKind.u64.wrap ((IntKind.u64.wrap (IntKind.u64.wrap (s0_2 * 6364136223846793005))) + 1442695040888963407)) / 1099511627776) 255), wrap64 (s0_1 + 1), IntKind.u64.wrap ((IntKind.u64.wrap (IntKind.u64.wrap (s0_2 * 6364136223846793005))) + 1442695040888963407))))) = some (r1, r2, r3) := h
 clear h
 by_cases c2 : s0_1 < (s0_0.length : Int)
 ·
  rw [if_pos c2] at H
  have c2b0 : decide (s0_1 < (s0_0.length : Int)) = true := zR c2; clear c2
  by_cases c3 : 0 ≤ s0_1
  ·
   rw [if_pos c3] at H
   have c3b0 : decide (0 ≤ s0_1) = true := zR c3; clear c3
   by_cases c4 : (wrap64 (s0_1 + 1)) ≤ (s0_0.length : Int)
   ·
    rw [if_pos c4] at H
    have c4b0 : decide ((wrap64 (s0_1 + 1)) ≤ (s0_0.length : Int)) = true := zR c4; clear c4
    simp only [Option.some.injEq, Prod.mk.injEq] at H
    obtain ⟨rfl, rfl, rfl⟩ := H
    obtain ⟨ASz5_0, cSz5_0, HGz5, hgz5, HSz5_0⟩ := HI0.out
    have hcz5_0 := cellS99_0 HGz5
    have hcz5_1 := cellS99_1 HGz5
    have hcz5_2 := cellS99_2 HGz5
    have hfz5_1 := yR HGz5 1
    have hfz5_2 := yR HGz5 2
    clear HGz5 hgz5
    have p102 : 0 ≤ (s0_1 : Int) := zP (by assumption)
    have q102 : s0_1 < (s0_0.length : Int) := zP (by assumption)
    obtain ⟨ad102, e102, hx102_0⟩ := Kd.at_int HSz5_0 s0_1 p102 q102
    cases e102
    replace hx102_0 := pw_cell_below HB.out hx102_0
    replace p102 := eq_true p102; replace q102 := eq_true q102; go_enter Try.func79, Try.ntmps79
    go_wp2
    repeat (go_quiet (fail); try go_wp2)
    go_ret
    exact ⟨by first | rfl | (simp <;> rfl) | (simp [*] <;> rfl), kR2 HI0, kR3 HB, kR4 HK⟩
   ·
    rw [if_neg c4] at H
    have c4b0 : decide ((wrap64 (s0_1 + 1)) ≤ (s0_0.length : Int)) = false := zS c4; clear c4
    simp only [Option.some.injEq, Prod.mk.injEq] at H
    obtain ⟨rfl, rfl, rfl⟩ := H
    obtain ⟨ASz6_0, cSz6_0, HGz6, hgz6, HSz6_0⟩ := HI0.out
    have hcz6_0 := cellS99_0 HGz6
    have hcz6_1 := cellS99_1 HGz6
    have hcz6_2 := cellS99_2 HGz6
    have hfz6_1 := yR HGz6 1
    have hfz6_2 := yR HGz6 2
    clear HGz6 hgz6
    have p102 : 0 ≤ (s0_1 : Int) := zP (by assumption)
    have q102 : s0_1 < (s0_0.length : Int) := zP (by assumption)
    obtain ⟨ad102, e102, hx102_0⟩ := Kd.at_int HSz6_0 s0_1 p102 q102
    cases e102
    replace hx102_0 := pw_cell_below HB.out hx102_0
    replace p102 := eq_true p102; replace q102 := eq_true q102; go_enter Try.func79, Try.ntmps79
    go_wp2
    repeat (go_quiet (fail); try go_wp2)
    go_ret
    exact ⟨by first | rfl | (simp <;> rfl) | (simp [*] <;> rfl), kR2 HI0, kR3 HB, kR4 HK⟩
  · rw [if_neg c3] at H
    exact absurd H (by simp)
 ·
  rw [if_neg c2] at H
  have c2b0 : decide (s0_1 < (s0_0.length : Int)) = false := zS c2; clear c2
  by_cases c7 : (wrap64 (s0_1 + 1)) ≤ (s0_0.length : Int)
  ·
   rw [if_pos c7] at H
   have c7b0 : decide ((wrap64 (s0_1 + 1)) ≤ (s0_0.length : Int)) = true := zR c7; clear c7
   simp only [Option.some.injEq, Prod.mk.injEq] at H
   obtain ⟨rfl, rfl, rfl⟩ := H
   obtain ⟨ASz8_0, cSz8_0, HGz8, hgz8, HSz8_0⟩ := HI0.out
   have hcz8_0 := cellS99_0 HGz8
   have hcz8_1 := cellS99_1 HGz8
   have hcz8_2 := cellS99_2 HGz8
   have hfz8_1 := yR HGz8 1
   have hfz8_2 := yR HGz8 2
   clear HGz8 hgz8; go_enter Try.func79, Try.ntmps79
   go_wp2
   repeat (go_quiet (fail); try go_wp2)
   go_ret
   exact ⟨by first | rfl | (simp <;> rfl) | (simp [*] <;> rfl), kR2 HI0, kR3 HB, kR4 HK⟩
  ·
   rw [if_neg c7] at H
   have c7b0 : decide ((wrap64 (s0_1 + 1)) ≤ (s0_0.length : Int)) = false := zS c7; clear c7
   simp only [Option.some.injEq, Prod.mk.injEq] at H
   obtain ⟨rfl, rfl, rfl⟩ := H
   obtain ⟨ASz9_0, cSz9_0, HGz9, hgz9, HSz9_0⟩ := HI0.out
   have hcz9_0 := cellS99_0 HGz9
   have hcz9_1 := cellS99_1 HGz9
   have hcz9_2 := cellS99_2 HGz9
   have hfz9_1 := yR HGz9 1
   have hfz9_2 := yR HGz9 2
   clear HGz9 hgz9; go_enter Try.func79, Try.ntmps79
   go_wp2
   repeat (go_quiet (fail); try go_wp2)
   go_ret
   exact ⟨by first | rfl | (simp <;> rfl) | (simp [*] <;> rfl), kR2 HI0, kR3 HB, kR4 HK⟩

/-! ### spec_l00Src_pick: function 71 -/
def spec_l00Src_pick.f (s0_0 : List Int) (s0_1 : Int) (s0_2 : Int) (a1 : Int) : Option (Int × Int × Int) := if a1 ≤ 1 then (some (0, s0_1, s0_2)) else ((spec_l00Src_next.f s0_0 s0_1 s0_2).bind fun bt103 => (if a1 > 200 then ((spec_l00Src_next.f s0_0 bt103.2.1 bt103.2.2).bind fun bt106 => (if a1 = 0 then (none) else (some (Int.tmod (wrap64 ((wrap64 (bt103.1 * 256)) + bt106.1)) a1, bt106.2.1, bt106.2.2)))) else (if a1 = 0 then (none) else (some (Int.tmod bt103.1 a1, bt103.2.1, bt103.2.2)))))
set_option maxHeartbeats 8000000 in
set_option maxRecDepth 100000 in
theorem spec_l00Src_pick.calls (g : Nat) (s0_0 : List Int) (s0_1 : Int) (s0_2 : Int) (a1 : Int) (r1 : Int) (r2 : Int) (r3 : Int) (w0 w : World) (hI : IsS99 w0 w g s0_0 s0_1 s0_2) (hB : Below w0.heap.size w0 w) (h : spec_l00Src_pick.f s0_0 s0_1 s0_2 a1 = some (r1, r2, r3)) :
 Calls Try.prog 71 #[.pointer (some ⟨g, 0, none⟩), .int .i64 a1] w fun e w' => e = .returned (.int .i64 r1) ∧ IsS99 w0 w' g s0_0 r2 r3 ∧ Below w0.heap.size w0 w' ∧ KeepBut w w' g none := by
 have HI0 := yD hI
 have HK := yD (KeepBut.refl w g none)
 have HL := yD hB.size
 clear hI
 have HW0 := yD hB.size
 have HB := yD hB
 clear hB
 have H : (if a1 ≤ 1 then (some (0, s0_1, s0_2)) else ((spec_l00Src_next.f s0_0 s0_1 s0_2).bind fun bt103 => (if a1 > 200 then ((spec_l00Src_next.f s0_0 bt103.2.1 bt103.2.2).bind fun bt106 => (if a1 = 0 then (none) else (some (Int.tmod (wrap64 ((wrap64 (bt103.1 * 256)) + bt106.1)) a1, bt106.2.1, bt106.2.2)))) else (if a1 = 0 then (none) else (some (Int.tmod bt103.1 a1, bt103.2.1, bt103.2.2)))))) = some (r1, r2, r3) := h
 clear h
 by_cases c3 : a1 ≤ 1
 ·
  rw [if_pos c3] at H
  have c3b0 : decide (a1 ≤ 1) = true := zR c3; clear c3
  simp only [Option.some.injEq, Prod.mk.injEq] at H
  obtain ⟨rfl, rfl, rfl⟩ := H
  go_enter Try.func71, Try.ntmps71
  go_wp2
  go_ret
  exact ⟨by first | rfl | (simp <;> rfl) | (simp [*] <;> rfl), kR2 HI0, kR3 HB, kR4 HK⟩
 ·
  rw [if_neg c3] at H
  have c3b0 : decide (a1 ≤ 1) = false := zS c3; clear c3
  obtain ⟨⟨t103, t104, t105⟩, A40, H⟩ := zW_ H
  replace H : (if a1 > 200 then ((spec_l00Src_next.f s0_0 t104 t105).bind fun bt106 => (if a1 = 0 then (none) else (some (Int.tmod (wrap64 ((wrap64 (t103 * 256)) + bt106.1)) a1, bt106.2.1, bt106.2.2)))) else (if a1 = 0 then (none) else (some (Int.tmod t103 a1, t104, t105)))) = some (r1, r2, r3) := H
  have A4 := yD A40
  clear A40
  by_cases c5 : a1 > 200
  ·
   rw [if_pos c5] at H
   have c5b0 : decide (200 < a1) = true := zR c5; clear c5
   obtain ⟨⟨t106, t107, t108⟩, A60, H⟩ := zW_ H
   replace H : (if a1 = 0 then (none) else (some (Int.tmod (wrap64 ((wrap64 (t103 * 256)) + t106)) a1, t107, t108))) = some (r1, r2, r3) := H
   have A6 := yD A60
   clear A60
   by_cases c7 : a1 = 0
   · rw [if_pos c7] at H
     exact absurd H (by simp)
   ·
    rw [if_neg c7] at H
    have c7b0 : (a1 == 0) = false := beq_eq_false_iff_ne.mpr c7
    have c7b1 : (a1 != 0) = true := bne_iff_ne.mpr c7
    simp only [Option.some.injEq, Prod.mk.injEq] at H
    obtain ⟨rfl, rfl, rfl⟩ := H
    go_enter Try.func71, Try.ntmps71
    go_wp2_with (first | ((with_reducible refine gate_callee (f := 79) rfl ?_); refine gL 9 Try.func79 #[.pointer (some ⟨g, 0, none⟩)] ?_; (with_reducible refine (spec_l00Src_next.calls g s0_0 s0_1 s0_2 t103 t104 t105 w0 _ ?side1 ?side2 A4.out).mono ?_); (case side1 => exact kR2 HI0); (case side2 => exact kR3 HB); rintro e w8 ⟨rfl, hi, hb, hk⟩; refine ⟨_, rfl, ?_⟩; replace HK := yD (KeepBut.trans (kR4 HK) hk (.inl rfl)); replace HB := yD (hb); replace HI0 := yD (hi); clear hb hk hi) | ((with_reducible refine gate_callee (f := 79) rfl ?_); refine gL 15 Try.func79 #[.pointer (some ⟨g, 0, none⟩)] ?_; (with_reducible refine (spec_l00Src_next.calls g s0_0 t104 t105 t106 t107 t108 w0 _ ?side1 ?side2 A6.out).mono ?_); (case side1 => exact kR2 HI0); (case side2 => exact kR3 HB); rintro e w9 ⟨rfl, hi, hb, hk⟩; refine ⟨_, rfl, ?_⟩; replace HK := yD (KeepBut.trans (kR4 HK) hk (.inl rfl)); replace HB := yD (hb); replace HI0 := yD (hi); clear hb hk hi))
    go_ret
    exact ⟨by first | rfl | (simp <;> rfl) | (simp [*] <;> rfl), kR2 HI0, kR3 HB, kR4 HK⟩
  ·
   rw [if_neg c5] at H
   have c5b0 : decide (200 < a1) = false := zS c5; clear c5
   by_cases c10 : a1 = 0
   · rw [if_pos c10] at H
     exact absurd H (by simp)
   ·
    rw [if_neg c10] at H
    have c10b0 : (a1 == 0) = false := beq_eq_false_iff_ne.mpr c10
    have c10b1 : (a1 != 0) = true := bne_iff_ne.mpr c10
    simp only [Option.some.injEq, Prod.mk.injEq] at H
    obtain ⟨rfl, rfl, rfl⟩ := H
    go_enter Try.func71, Try.ntmps71
    go_wp2_with (first | ((with_reducible refine gate_callee (f := 79) rfl ?_); refine gL 9 Try.func79 #[.pointer (some ⟨g, 0, none⟩)] ?_; (with_reducible refine (spec_l00Src_next.calls g s0_0 s0_1 s0_2 t103 t104 t105 w0 _ ?side1 ?side2 A4.out).mono ?_); (case side1 => exact kR2 HI0); (case side2 => exact kR3 HB); rintro e w11 ⟨rfl, hi, hb, hk⟩; refine ⟨_, rfl, ?_⟩; replace HK := yD (KeepBut.trans (kR4 HK) hk (.inl rfl)); replace HB := yD (hb); replace HI0 := yD (hi); clear hb hk hi))
    go_ret
    exact ⟨by first | rfl | (simp <;> rfl) | (simp [*] <;> rfl), kR2 HI0, kR3 HB, kR4 HK⟩

/-! ### spec_l00Src_one: function 72 -/
def spec_l00Src_one.f (s0_0 : List Int) (s0_1 : Int) (s0_2 : Int) (a1 : Int) : Option (Bool × Int × Int) := (spec_l00Src_pick.f s0_0 s0_1 s0_2 a1).bind fun bt109 => (some ((bt109.1 == 0), bt109.2.1, bt109.2.2))
set_option maxHeartbeats 8000000 in
set_option maxRecDepth 100000 in
theorem spec_l00Src_one.calls (g : Nat) (s0_0 : List Int) (s0_1 : Int) (s0_2 : Int) (a1 : Int) (r1 : Bool) (r2 : Int) (r3 : Int) (w0 w : World) (hI : IsS99 w0 w g s0_0 s0_1 s0_2) (hB : Below w0.heap.size w0 w) (h : spec_l00Src_one.f s0_0 s0_1 s0_2 a1 = some (r1, r2, r3)) :
 Calls Try.prog 72 #[.pointer (some ⟨g, 0, none⟩), .int .i64 a1] w fun e w' => e = .returned (.bool r1) ∧ IsS99 w0 w' g s0_0 r2 r3 ∧ Below w0.heap.size w0 w' ∧ KeepBut w w' g none := by
 have HI0 := yD hI
 have HK := yD (KeepBut.refl w g none)
 have HL := yD hB.size
 clear hI
 have HW0 := yD hB.size
 have HB := yD hB
 clear hB
 have H : ((spec_l00Src_pick.f s0_0 s0_1 s0_2 a1).bind fun bt109 => (some ((bt109.1 == 0), bt109.2.1, bt109.2.2))) = some (r1, r2, r3) := h
 clear h
 obtain ⟨⟨t109, t110, t111⟩, A30, H⟩ := zW_ H
 replace H : (some ((t109 == 0), t110, t111)) = some (r1, r2, r3) := H
 have A3 := yD A30
 clear A30
 simp only [Option.some.injEq, Prod.mk.injEq] at H
 obtain ⟨rfl, rfl, rfl⟩ := H
 go_enter Try.func72, Try.ntmps72
 go_wp2_with (first | ((with_reducible refine gate_callee (f := 71) rfl ?_); refine gL 7 Try.func71 #[.pointer (some ⟨g, 0, none⟩), .int .i64 a1] ?_; (with_reducible refine (spec_l00Src_pick.calls g s0_0 s0_1 s0_2 a1 t109 t110 t111 w0 _ ?side1 ?side2 A3.out).mono ?_); (case side1 => exact kR2 HI0); (case side2 => exact kR3 HB); rintro e w4 ⟨rfl, hi, hb, hk⟩; refine ⟨_, rfl, ?_⟩; replace HK := yD (KeepBut.trans (kR4 HK) hk (.inl rfl)); replace HB := yD (hb); replace HI0 := yD (hi); clear hb hk hi))
 go_ret
 exact ⟨by first | rfl | (simp <;> rfl) | (simp [*] <;> rfl), kR2 HI0, kR3 HB, kR4 HK⟩

/-! ### spec_l01Pad: function 85 -/
def spec_l01Pad.f (a0 : ByteArray) (a1 : Int) : Option (ByteArray) := if (a0.size : Int) ≥ a1 then (some a0) else (if 0 ≤ (wrap64 (a1 - (a0.size : Int))) then (if (wrap64 (a1 - (a0.size : Int)) : Int).toNat ≤ 281474976710656 then ((some (List.replicate (wrap64 (a1 - (a0.size : Int)) : Int).toNat 0 : List Int)).bind fun y112 => (if a0.size + (strOfNums y112).size ≤ 9223372036854775807 then (some (a0 ++ (strOfNums y112))) else (none))) else (none)) else (none))
set_option maxHeartbeats 8000000 in
set_option maxRecDepth 100000 in
theorem spec_l01Pad.calls (a0 : ByteArray) (a1 : Int) (r : ByteArray) (w : World) (h : spec_l01Pad.f a0 a1 = some r) :
 Calls Try.prog 85 #[.string a0, .int .i64 a1] w fun e w' => e = .returned (.string r) ∧ Below w.heap.size w w' := by
 have HB := yD (Below.refl w.heap.size w)
 have H : (if (a0.size : Int) ≥ a1 then (some a0) else (if 0 ≤ (wrap64 (a1 - (a0.size : Int))) then (if (wrap64 (a1 - (a0.size : Int)) : Int).toNat ≤ 281474976710656 then ((some (List.replicate (wrap64 (a1 - (a0.size : Int)) : Int).toNat 0 : List Int)).bind fun y112 => (if a0.size + (strOfNums y112).size ≤ 9223372036854775807 then (some (a0 ++ (strOfNums y112))) else (none))) else (none)) else (none))) = some r := h
 clear h
 by_cases c3 : (a0.size : Int) ≥ a1
 · rw [if_pos c3] at H
   have c3b0 : decide (a1 ≤ (a0.size : Int)) = true := zR c3; clear c3; obtain rfl := Option.some.inj H; go_enter Try.func85, Try.ntmps85
   go_wp2
   go_ret
   exact ⟨by first | rfl | (simp <;> rfl) | (simp [*] <;> rfl), kR0 HB⟩
 ·
  rw [if_neg c3] at H
  have c3b0 : decide (a1 ≤ (a0.size : Int)) = false := zS c3; clear c3
  obtain ⟨ji4, hji4⟩ : ∃ j_ : Int, (wrap64 (a1 - (a0.size : Int))) = j_ := ⟨_, rfl⟩
  replace H : (if 0 ≤ (ji4) then (if (ji4 : Int).toNat ≤ 281474976710656 then ((some (List.replicate (ji4 : Int).toNat 0 : List Int)).bind fun y112 => (if a0.size + (strOfNums y112).size ≤ 9223372036854775807 then (some (a0 ++ (strOfNums y112))) else (none))) else (none)) else (none)) = some r := by first | (rw [hji4] at H; exact H) | (simp only [hji4] at H ⊢; exact H)
  have hji4w : (IntKind.i64.wrap (a1 - (a0.size : Int))) = ji4 := (i64_w _).trans hji4
  by_cases c5 : 0 ≤ (ji4)
  ·
   rw [if_pos c5] at H
   have c5b0 := eq_true c5
   have c5b1 : decide (0 ≤ (ji4)) = true := zR c5; clear c5
   by_cases c6 : (ji4 : Int).toNat ≤ 281474976710656
   ·
    rw [if_pos c6] at H
    have c6b0 := eq_true c6
    have c6b1 : decide ((ji4 : Int).toNat ≤ 281474976710656) = true := zR c6; clear c6
    obtain ⟨y112, hy112⟩ : ∃ y_ : List Int, y_ = (List.replicate (ji4 : Int).toNat 0) := ⟨_, rfl⟩
    replace H : (if a0.size + (strOfNums y112).size ≤ 9223372036854775807 then (some (a0 ++ (strOfNums y112))) else (none)) = some r := by first | (rw [hy112]; with_reducible exact H) | (have H2_ := (Option.bind_some _ _).symm.trans H; rw [hy112]; with_reducible exact H2_) | (have H2_ := (Option.bind_some _ _).symm.trans H; with_reducible exact H2_) | with_reducible exact H | (rw [hy112]; exact H) | exact H
    have Ny112 := yD hy112
    clear hy112
    by_cases c7 : a0.size + (strOfNums y112).size ≤ 9223372036854775807
    · rw [if_pos c7] at H
      have c7b0 := eq_true c7
      have c7b1 : decide (a0.size + (strOfNums y112).size ≤ 9223372036854775807) = true := zR c7
      try have c7b2 : (9223372036854775807 < a0.size + (strOfNums y112).size) = False := eq_false (Nat.not_lt.2 c7)
      obtain rfl := Option.some.inj H; go_enter Try.func85, Try.ntmps85
      go_wp2_with (first | ((with_reducible refine gate_dst (N := 15) rfl ?_); refine Kd.R_make (Kd.int .u8) _ 5 rfl (N := 15) rfl 44 _ _ rfl ji4 rfl rfl Try.underlying44 (.int .u8 0) 1 info5 rfl (by decide) (by omega) 0 (ok := fun _ => True) (okp := fun _ => True) rfl (fun _ hk => hk) trivial (zP (by assumption)) (Nat.le_trans (Nat.mul_le_mul_right _ (zP (by assumption) : ji4.toNat ≤ 281474976710656)) (by omega)) (Below.refl _ _) (Nat.le_refl _) ?_; intro v113 w8 ho9 hb hg_ hnew_; clear hg_ hnew_; (first | rw [← Ny112.out] at ho9 | (simp only [Int.reduceToNat] at ho9; rw [← Ny112.out] at ho9)); have HO114 := yD (yZ ho9 (below_size (kB HB))); replace HB := yD (zC (kB HB) hb); clear hb ho9; have hcv10 := own_string (P := Try.prog) Try.underlying44 Try.underlying5 Try.underlying9 (Kd.own_of_R HO114.out)))
      go_ret
      exact ⟨by first | rfl | (simp [errW_none, errW_some] <;> rfl) | (simp only [← hji4]; first | rfl | (simp [errW_none, errW_some] <;> rfl)) | (simp [*, errW_none, errW_some] <;> rfl), kR0 HB⟩
    · rw [if_neg c7] at H
      exact absurd H (by simp)
   · rw [if_neg c6] at H
     exact absurd H (by simp)
  · rw [if_neg c5] at H
    exact absurd H (by simp)

/-! ### spec_l09DrawBlock: function 78 -/
mutual
def spec_l09DrawBlock.l0 : Nat → Int → List Int → Int → List Int → Int → Int → Option (ByteArray × Int × Int)
 | 0, _, _, _, _, _, _ => none
 | k + 1, x3, x4, x5, x1000, x1001, x1002 => if x5 < x3 then ((spec_l00Src_next.f x1000 x1001 x1002).bind fun bt121 => (if x4.length < 140737488355328 then (spec_l09DrawBlock.l0 k x3 (x4 ++ [(bt121.1) % 256]) (wrap64 (x5 + 1)) x1000 bt121.2.1 bt121.2.2) else (none))) else ((spec_l00Src_one.f x1000 x1001 x1002 3).bind fun bt127 => (if bt127.1 = true then ((spec_l01Pad.f (strOfNums x4) 64).bind fun t130 => (some (t130, bt127.2.1, bt127.2.2))) else (spec_l09DrawBlock.l1 k x3 x4 x1000 bt127.2.1 bt127.2.2)))
def spec_l09DrawBlock.l1 : Nat → Int → List Int → List Int → Int → Int → Option (ByteArray × Int × Int)
 | 0, _, _, _, _, _ => none
 | k + 1, x3, x4, x1000, x1001, x1002 => if (x4.length : Int) < 64 then (if x3 = 0 then (none) else (if 0 ≤ ((x4.length : Int) % x3) then (if ((x4.length : Int) % x3) < (x4.length : Int) then (if x4.length < 140737488355328 then (spec_l09DrawBlock.l1 k x3 (x4 ++ [rd x4 ((x4.length : Int) % x3)]) x1000 x1001 x1002) else (none)) else (none)) else (none))) else (some (strOfNums x4, x1001, x1002))
end
def spec_l09DrawBlock.f (k : Nat) (s0_0 : List Int) (s0_1 : Int) (s0_2 : Int) : Option (ByteArray × Int × Int) := (spec_l00Src_pick.f s0_0 s0_1 s0_2 9).bind fun bt115 => (spec_l09DrawBlock.l0 k (wrap64 (1 + bt115.1)) (([] : List Int)) 0 s0_0 bt115.2.1 bt115.2.2)
theorem spec_l09DrawBlock.mono_l : ∀ k, (∀ y0 y1 y2 y3 y4 y5, LeO (spec_l09DrawBlock.l0 k y0 y1 y2 y3 y4 y5) (spec_l09DrawBlock.l0 (k + 1) y0 y1 y2 y3 y4 y5)) ∧ (∀ y0 y1 y2 y3 y4, LeO (spec_l09DrawBlock.l1 k y0 y1 y2 y3 y4) (spec_l09DrawBlock.l1 (k + 1) y0 y1 y2 y3 y4))
 | 0 => ⟨fun _ _ _ _ _ _ r h => by simp [spec_l09DrawBlock.l0] at h, fun _ _ _ _ _ r h => by simp [spec_l09DrawBlock.l1] at h⟩
 | k + 1 => by
  obtain ⟨ih0, ih1⟩ := spec_l09DrawBlock.mono_l k
  refine ⟨?_, ?_⟩
  · intro y0 y1 y2 y3 y4 y5
    unfold spec_l09DrawBlock.l0
    repeat' (with_reducible first | exact ih0 _ _ _ _ _ _ | exact ih1 _ _ _ _ _ | exact LeO.refl _ | exact LeO.none _ | refine LeO.ite ?_ ?_ | refine LeO.bind ?_ (fun _ => ?_))
  · intro y0 y1 y2 y3 y4
    unfold spec_l09DrawBlock.l1
    repeat' (with_reducible first | exact ih0 _ _ _ _ _ _ | exact ih1 _ _ _ _ _ | exact LeO.refl _ | exact LeO.none _ | refine LeO.ite ?_ ?_ | refine LeO.bind ?_ (fun _ => ?_))
theorem spec_l09DrawBlock.mono : ∀ a0 a1 a2 k, LeO (spec_l09DrawBlock.f k a0 a1 a2) (spec_l09DrawBlock.f (k + 1) a0 a1 a2) := by
 intro a0 a1 a2 k
 obtain ⟨ih0, ih1⟩ := spec_l09DrawBlock.mono_l k
 unfold spec_l09DrawBlock.f
 repeat' (with_reducible first | exact ih0 _ _ _ _ _ _ | exact ih1 _ _ _ _ _ | exact LeO.refl _ | exact LeO.none _ | refine LeO.ite ?_ ?_ | refine LeO.bind ?_ (fun _ => ?_))
set_option maxHeartbeats 8000000 in
set_option maxRecDepth 100000 in
theorem spec_l09DrawBlock.calls (k : Nat) (g : Nat) (s0_0 : List Int) (s0_1 : Int) (s0_2 : Int) (r1 : ByteArray) (r2 : Int) (r3 : Int) (w0 w : World) (hI : IsS99 w0 w g s0_0 s0_1 s0_2) (hB : Below w0.heap.size w0 w) (h : spec_l09DrawBlock.f k s0_0 s0_1 s0_2 = some (r1, r2, r3)) :
 Calls Try.prog 78 #[.pointer (some ⟨g, 0, none⟩)] w fun e w' => e = .returned (.string r1) ∧ IsS99 w0 w' g s0_0 r2 r3 ∧ Below w0.heap.size w0 w' ∧ KeepBut w w' g none := by
 have HI0 := yD hI
 have HK := yD (KeepBut.refl w g none)
 have HL := yD hB.size
 clear hI
 have HW0 := yD hB.size
 have HB := yD hB
 clear hB
 have H : ((spec_l00Src_pick.f s0_0 s0_1 s0_2 9).bind fun bt115 => (spec_l09DrawBlock.l0 k (wrap64 (1 + bt115.1)) (([] : List Int)) 0 s0_0 bt115.2.1 bt115.2.2)) = some (r1, r2, r3) := h
 clear h
 obtain ⟨⟨t115, t116, t117⟩, A20, H⟩ := zW_ H
 replace H : (spec_l09DrawBlock.l0 k (wrap64 (1 + t115)) (([] : List Int)) 0 s0_0 t116 t117) = some (r1, r2, r3) := H
 have A2 := yD A20
 clear A20
 obtain ⟨y118, hy118⟩ : ∃ y_ : List Int, y_ = (([] : List Int)) := ⟨_, rfl⟩
 replace H : (spec_l09DrawBlock.l0 k (wrap64 (1 + t115)) y118 0 s0_0 t116 t117) = some (r1, r2, r3) := by first | (rw [hy118]; with_reducible exact H) | (have H2_ := (Option.bind_some _ _).symm.trans H; rw [hy118]; with_reducible exact H2_) | (have H2_ := (Option.bind_some _ _).symm.trans H; with_reducible exact H2_) | with_reducible exact H | (rw [hy118]; exact H) | exact H
 have Ny118 := yD hy118
 clear hy118
 have H' := yD H
 clear H; go_enter Try.func78, Try.ntmps78
 go_wp2_with (first | ((with_reducible refine gate_callee (f := 71) rfl ?_); refine gL 7 Try.func71 #[.pointer (some ⟨g, 0, none⟩), .int .i64 9] ?_; (with_reducible refine (spec_l00Src_pick.calls g s0_0 s0_1 s0_2 9 t115 t116 t117 w0 _ ?side1 ?side2 A2.out).mono ?_); (case side1 => exact kR2 HI0); (case side2 => exact kR3 HB); rintro e w3 ⟨rfl, hi, hb, hk⟩; refine ⟨_, rfl, ?_⟩; replace HK := yD (KeepBut.trans (kR4 HK) hk (.inl rfl)); replace HB := yD (hb); replace HI0 := yD (hi); clear hb hk hi) | ((with_reducible refine gate_dst (N := 9) rfl ?_); refine Kd.R_lit (Kd.int .u8) _ 5 ?hg (N := 9) ?hd (xs := ([] : List Int)) (inner := []) (ok := fun _ => True) (okp := fun _ => True) ?hr ?hp (fun _ hk => hk) trivial (Below.refl _ _) (Nat.le_refl _) (by simp) ?_; (case hd => rfl); (case hg => rfl); (case hr => first | (go_simp; done) | (go_simp; rfl)); (case hp => exact (Reps.none _ _)); intro v119 w4 ho5 hb hg_ hnew_; clear hg_ hnew_; (first | rw [← Ny118.out] at ho5 | (simp only [Int.reduceToNat] at ho5; rw [← Ny118.out] at ho5)); have HO120 := yD (yZ ho5 (keep_size (w := w) (g := g) (row := none) (kR4 HK))); replace HI0 := yD (IsS99.below (kR2 HI0) hb); replace HK := yD (KeepBut.trans (kR4 HK) (KeepBut.of_below hb g none) (.inl rfl)); replace HB := yD (zC (kR3 HB) hb); clear hb ho5))
 (try simp only [Act.put, zH, zI, zJ])
 go_loopg [4, 5] k (fun kq v4 v5 w' => ∃ (x4_1 : List Int) (x5_1 : Int) (x1001_1 : Int) (x1002_1 : Int), v5 = .int .i64 x5_1 ∧ Aside0 (spec_l09DrawBlock.l0 kq (wrap64 (1 + t115)) x4_1 x5_1 s0_0 x1001_1 x1002_1 = some (r1, r2, r3)) ∧ Aside0 (kq ≤ k) ∧ Aside0 (Kd.R (Kd.int .u8) 5 w' w.heap.size (fun _ => True) v4 x4_1) ∧ Aside0 (IsS99 w0 w' g s0_0 x1001_1 x1002_1) ∧ Aside0 (KeepBut w w' g none) ∧ Aside0 (Below w0.heap.size w0 w'))
 case atStart => exact ⟨(y118), (0), (t116), (t117), (by first | rfl | (simp; done) | (simp [*]; done)), H', ⟨Nat.le_refl _⟩, ⟨kA HO120⟩, ⟨kR2 HI0⟩, ⟨kR4 HK⟩, ⟨kR3 HB⟩⟩
 case round =>
  clear H'
  try clear p2
  obtain ⟨x4_1, x5_1, x1001_1, x1002_1, rfl, HA, HK1, HO_4, HI0, HK, HB⟩ := hrel
  cases gk with
  | zero => exact absurd HA.out (by simp [spec_l09DrawBlock.l0])
  | succ k1 =>
   have H := HA.out; clear HA
   simp only [spec_l09DrawBlock.l0] at H
   by_cases c6 : x5_1 < (wrap64 (1 + t115))
   ·
    rw [if_pos c6] at H
    have c6b0 : decide (x5_1 < (wrap64 (1 + t115))) = true := zR c6; clear c6
    obtain ⟨⟨t121, t122, t123⟩, A70, H⟩ := zW_ H
    replace H : (if x4_1.length < 140737488355328 then (spec_l09DrawBlock.l0 k1 (wrap64 (1 + t115)) (x4_1 ++ [(t121) % 256]) (wrap64 (x5_1 + 1)) s0_0 t122 t123) else (none)) = some (r1, r2, r3) := H
    have A7 := yD A70
    clear A70
    by_cases c8 : x4_1.length < 140737488355328
    ·
     rw [if_pos c8] at H
     have LMc8 := yD c8
     clear c8
     obtain ⟨y124, hy124⟩ : ∃ y_ : List Int, y_ = (x4_1 ++ [(t121) % 256]) := ⟨_, rfl⟩
     replace H : (spec_l09DrawBlock.l0 k1 (wrap64 (1 + t115)) y124 (wrap64 (x5_1 + 1)) s0_0 t122 t123) = some (r1, r2, r3) := by first | (rw [hy124]; with_reducible exact H) | (have H2_ := (Option.bind_some _ _).symm.trans H; rw [hy124]; with_reducible exact H2_) | (have H2_ := (Option.bind_some _ _).symm.trans H; with_reducible exact H2_) | with_reducible exact H | (rw [hy124]; exact H) | exact H
     have Ny124 := yD hy124
     clear hy124
     have H' := yD H
     clear H
     go_wp2_with (first | ((with_reducible refine gate_callee (f := 79) rfl ?_); refine gL 17 Try.func79 #[.pointer (some ⟨g, 0, none⟩)] ?_; (with_reducible refine (spec_l00Src_next.calls g s0_0 x1001_1 x1002_1 t121 t122 t123 w0 _ ?side1 ?side2 A7.out).mono ?_); (case side1 => exact kR2 HI0); (case side2 => exact kR3 HB); rintro e w9 ⟨rfl, hi, hb, hk⟩; refine ⟨_, rfl, ?_⟩; replace HO_4 := yD (zF (Kd.R_keep (IsS99.apart (show IsS99 w0 _ g s0_0 x1001_1 x1002_1 from kR2 HI0) (kA HO_4) (by decide)) hk (fun _ h => h.2)) (fun _ h => h.1)); replace HK := yD (KeepBut.trans (kR4 HK) hk (.inl rfl)); replace HB := yD (hb); replace HI0 := yD (hi); clear hb hk hi) | ((with_reducible refine gate_builtin (b := .append) (xs := #[.tmp 15, .tmp 19]) rfl ?_); at_builtin; refine Kd.R_append (Kd.int .u8) w.heap.size rfl (.tmp 15) (.tmp 19) 44 5 (.int .u8 0) 1 rfl Try.underlying44 info5 rfl (by decide) (by omega) u4 x4_1 ((t121) % 256) [.int .u8 ((t121) % 256)] (fun _ => True) (fun _ => False) rfl rfl ?aP (fun _ hk => hk.elim) ?aF ?aO (Below.refl _ _) ?aS ?aL ?_; (case aP => exact rfl); (case aF => exact (fun _ _ => trivial)); (case aO => exact (kA HO_4)); (case aS => exact (keep_size (w := w) (g := g) (row := none) (kR4 HK))); (case aL => have := LMc8.out; omega); intro v125 w10 ho hb hg hat; rw [← Ny124.out] at ho; replace HI0 := yD (IsS99.grown (kR2 HI0) hg (IsS99.own_ne HI0.out HO_4.out (by decide))); replace HB := yD (below_weaken (kR3 HB) HL.out hb); replace HK := yD (KeepBut.trans (kR4 HK) (KeepBut.of_grown hg g) (Kd.R_base2 HO_4.out)); have HO126 := yD (ho); clear HO_4; clear ho hb hg hat))
     go_roundg k1
     case measure => have := HK1.out; omega
     case rel => exact ⟨(y124), (wrap64 (x5_1 + 1)), (t122), (t123), (by first | rfl | (simp; done) | (simp [*]; done)), H', ⟨by have := HK1.out; omega⟩, ⟨kA HO126⟩, ⟨kR2 HI0⟩, ⟨kR4 HK⟩, ⟨kR3 HB⟩⟩
    · rw [if_neg c8] at H
      exact absurd H (by simp)
   ·
    rw [if_neg c6] at H
    have c6b0 : decide (x5_1 < (wrap64 (1 + t115))) = false := zS c6; clear c6
    obtain ⟨⟨t127, t128, t129⟩, A110, H⟩ := zW_ H
    replace H : (if t127 = true then ((spec_l01Pad.f (strOfNums x4_1) 64).bind fun t130 => (some (t130, t128, t129))) else (spec_l09DrawBlock.l1 k1 (wrap64 (1 + t115)) x4_1 s0_0 t128 t129)) = some (r1, r2, r3) := H
    have A11 := yD A110
    clear A110
    by_cases c12 : t127 = true
    ·
     subst c12
     replace H : ((spec_l01Pad.f (strOfNums x4_1) 64).bind fun t130 => (some (t130, t128, t129))) = some (r1, r2, r3) := (by rw [if_pos rfl] at H; exact H)
     obtain ⟨t130, A130, H⟩ := zW_ H
     replace H : (some (t130, t128, t129)) = some (r1, r2, r3) := H
     have A13 := yD A130
     clear A130
     simp only [Option.some.injEq, Prod.mk.injEq] at H
     obtain ⟨rfl, rfl, rfl⟩ := H
     go_wp2_with (first | ((with_reducible refine gate_callee (f := 72) rfl ?_); refine gL 22 Try.func72 #[.pointer (some ⟨g, 0, none⟩), .int .i64 3] ?_; (with_reducible refine (spec_l00Src_one.calls g s0_0 x1001_1 x1002_1 3 true t128 t129 w0 _ ?side1 ?side2 A11.out).mono ?_); (case side1 => exact kR2 HI0); (case side2 => exact kR3 HB); rintro e w14 ⟨rfl, hi, hb, hk⟩; refine ⟨_, rfl, ?_⟩; replace HO_4 := yD (zF (Kd.R_keep (IsS99.apart (show IsS99 w0 _ g s0_0 x1001_1 x1002_1 from kR2 HI0) (kA HO_4) (by decide)) hk (fun _ h => h.2)) (fun _ h => h.1)); replace HK := yD (KeepBut.trans (kR4 HK) hk (.inl rfl)); replace HB := yD (hb); replace HI0 := yD (hi); clear hb hk hi; have hcv15 := own_string (P := Try.prog) Try.underlying44 Try.underlying5 Try.underlying9 (Kd.own_of_R HO_4.out)) | ((with_reducible refine gate_callee (f := 85) rfl ?_); refine gL 25 Try.func85 #[.string (strOfNums x4_1), .int .i64 64] ?_; (with_reducible refine (spec_l01Pad.calls (strOfNums x4_1) 64 t130 _ A13.out).mono ?_); rintro e w16 ⟨rfl, hb⟩; refine ⟨_, rfl, ?_⟩; replace HO_4 := yD (zE (kA HO_4) hb); replace HI0 := yD (IsS99.below (kR2 HI0) hb); replace HK := yD (KeepBut.trans (kR4 HK) (KeepBut.of_below hb g none) (.inl rfl)); replace HB := yD (zC (kR3 HB) hb); clear hb))
     go_ret
     exact ⟨by first | rfl | (simp <;> rfl) | (simp [*] <;> rfl), kR2 HI0, kR3 HB, kR4 HK⟩
    ·
     replace c12 := Bool.eq_false_iff.mpr c12
     subst c12
     replace H : (spec_l09DrawBlock.l1 k1 (wrap64 (1 + t115)) x4_1 s0_0 t128 t129) = some (r1, r2, r3) := (by rw [if_neg (show ¬ (false = true) by decide)] at H; exact H)
     have H' := yD H
     clear H
     go_wp2_with (first | ((with_reducible refine gate_callee (f := 72) rfl ?_); refine gL 22 Try.func72 #[.pointer (some ⟨g, 0, none⟩), .int .i64 3] ?_; (with_reducible refine (spec_l00Src_one.calls g s0_0 x1001_1 x1002_1 3 false t128 t129 w0 _ ?side1 ?side2 A11.out).mono ?_); (case side1 => exact kR2 HI0); (case side2 => exact kR3 HB); rintro e w17 ⟨rfl, hi, hb, hk⟩; refine ⟨_, rfl, ?_⟩; replace HO_4 := yD (zF (Kd.R_keep (IsS99.apart (show IsS99 w0 _ g s0_0 x1001_1 x1002_1 from kR2 HI0) (kA HO_4) (by decide)) hk (fun _ h => h.2)) (fun _ h => h.1)); replace HK := yD (KeepBut.trans (kR4 HK) hk (.inl rfl)); replace HB := yD (hb); replace HI0 := yD (hi); clear hb hk hi))
     (try simp only [Act.put, zH, zI, zJ])
     go_loopg [4] k1 (fun kq v4 w' => ∃ (x4_2 : List Int), Aside0 (spec_l09DrawBlock.l1 kq (wrap64 (1 + t115)) x4_2 s0_0 t128 t129 = some (r1, r2, r3)) ∧ Aside0 (kq ≤ k1) ∧ Aside0 (Kd.R (Kd.int .u8) 5 w' w.heap.size (fun _ => True) v4 x4_2) ∧ Aside0 (IsS99 w0 w' g s0_0 t128 t129) ∧ Aside0 (KeepBut w w' g none) ∧ Aside0 (Below w0.heap.size w0 w'))
     case atStart => exact ⟨(x4_1), H', ⟨Nat.le_refl _⟩, ⟨kA HO_4⟩, ⟨kR2 HI0⟩, ⟨kR4 HK⟩, ⟨kR3 HB⟩⟩
     case round =>
      clear H'
      try clear c1; try clear c6; try clear c6b0; try clear c8; try clear c12; try clear hcv15
      obtain ⟨x4_2, HA, HK2, HO_4, HI0, HK, HB⟩ := hrel
      cases gk with
      | zero => exact absurd HA.out (by simp [spec_l09DrawBlock.l1])
      | succ k2 =>
       have H := HA.out; clear HA
       simp only [spec_l09DrawBlock.l1] at H
       by_cases c18 : (x4_2.length : Int) < 64
       ·
        rw [if_pos c18] at H
        have c18b0 : decide ((x4_2.length : Int) < 64) = true := zR c18
        have c18b1 : decide (x4_2.length < 64) = true := zR (by omega)
        clear c18
        by_cases c19 : (wrap64 (1 + t115)) = 0
        · rw [if_pos c19] at H
          exact absurd H (by simp)
        ·
         rw [if_neg c19] at H
         have c19b0 : ((wrap64 (1 + t115)) == 0) = false := beq_eq_false_iff_ne.mpr c19
         have c19b1 : ((wrap64 (1 + t115)) != 0) = true := bne_iff_ne.mpr c19
         obtain ⟨ji20, hji20⟩ : ∃ j_ : Int, ((x4_2.length : Int) % (wrap64 (1 + t115))) = j_ := ⟨_, rfl⟩
         replace H : (if 0 ≤ (ji20) then (if (ji20) < (x4_2.length : Int) then (if x4_2.length < 140737488355328 then (spec_l09DrawBlock.l1 k2 (wrap64 (1 + t115)) (x4_2 ++ [rd x4_2 (ji20)]) s0_0 t128 t129) else (none)) else (none)) else (none)) = some (r1, r2, r3) := by first | (rw [hji20] at H; exact H) | (simp only [hji20] at H ⊢; exact H)
         by_cases c21 : 0 ≤ (ji20)
         ·
          rw [if_pos c21] at H
          have c21b0 : decide (0 ≤ (ji20)) = true := zR c21; clear c21
          by_cases c22 : (ji20) < (x4_2.length : Int)
          ·
           rw [if_pos c22] at H
           have c22b0 : decide ((ji20) < (x4_2.length : Int)) = true := zR c22; clear c22
           by_cases c23 : x4_2.length < 140737488355328
           ·
            rw [if_pos c23] at H
            have LMc23 := yD c23
            clear c23
            obtain ⟨y132, hy132⟩ : ∃ y_ : List Int, y_ = (x4_2 ++ [rd x4_2 (ji20)]) := ⟨_, rfl⟩
            replace H : (spec_l09DrawBlock.l1 k2 (wrap64 (1 + t115)) y132 s0_0 t128 t129) = some (r1, r2, r3) := by first | (rw [hy132]; with_reducible exact H) | (have H2_ := (Option.bind_some _ _).symm.trans H; rw [hy132]; with_reducible exact H2_) | (have H2_ := (Option.bind_some _ _).symm.trans H; with_reducible exact H2_) | with_reducible exact H | (rw [hy132]; exact H) | exact H
            have Ny132 := yD hy132
            clear hy132
            have H' := yD H
            clear H
            obtain ⟨Ao24, co24, eo24⟩ := Kd.R_slice HO_4.out
            subst eo24
            have p131 : 0 ≤ ((ji20) : Int) := zP (by assumption)
            have q131 : (ji20) < (x4_2.length : Int) := zP (by assumption)
            obtain ⟨ad131, e131, hx131_0⟩ := Kd.at_int (zA HO_4.out).2.2 (ji20) p131 q131
            cases e131; replace p131 := eq_true p131; replace q131 := eq_true q131
            go_wp2_with (first | ((with_reducible refine gate_builtin (b := .append) (xs := #[.tmp 29, .tmp 37]) rfl ?_); at_builtin; refine Kd.R_append (Kd.int .u8) w.heap.size rfl (.tmp 29) (.tmp 37) 44 5 (.int .u8 0) 1 rfl Try.underlying44 info5 rfl (by decide) (by omega) (.slice (some ad131) x4_2.length co24) x4_2 (rd x4_2 (ji20)) [.int .u8 (rd x4_2 (ji20))] (fun _ => True) (fun _ => False) rfl rfl ?aP (fun _ hk => hk.elim) ?aF ?aO (Below.refl _ _) ?aS ?aL ?_; (case aP => exact rfl); (case aF => exact (fun _ _ => trivial)); (case aO => exact (kA HO_4)); (case aS => exact (keep_size (w := w) (g := g) (row := none) (kR4 HK))); (case aL => have := LMc23.out; omega); intro v133 w25 ho hb hg hat; rw [← Ny132.out] at ho; replace HI0 := yD (IsS99.grown (kR2 HI0) hg (IsS99.own_ne HI0.out HO_4.out (by decide))); replace HB := yD (below_weaken (kR3 HB) HL.out hb); replace HK := yD (KeepBut.trans (kR4 HK) (KeepBut.of_grown hg g) (Kd.R_base2 HO_4.out)); have HO134 := yD (ho); clear HO_4; clear ho hb hg hat))
            go_roundg k2
            case measure => have := HK1.out; have := HK2.out; omega
            case rel => exact ⟨(y132), H', ⟨by have := HK1.out; have := HK2.out; omega⟩, ⟨kA HO134⟩, ⟨kR2 HI0⟩, ⟨kR4 HK⟩, ⟨kR3 HB⟩⟩
           · rw [if_neg c23] at H
             exact absurd H (by simp)
          · rw [if_neg c22] at H
            exact absurd H (by simp)
         · rw [if_neg c21] at H
           exact absurd H (by simp)
       ·
        rw [if_neg c18] at H
        have c18b0 : decide ((x4_2.length : Int) < 64) = false := zS c18
        have c18b1 : decide (x4_2.length < 64) = false := zS (by omega)
        clear c18
        simp only [Option.some.injEq, Prod.mk.injEq] at H
        obtain ⟨rfl, rfl, rfl⟩ := H
        obtain ⟨Ao26, co26, eo26⟩ := Kd.R_slice HO_4.out
        subst eo26
        have hcv27 := own_string (P := Try.prog) Try.underlying44 Try.underlying5 Try.underlying9 (Kd.own_of_R HO_4.out)
        go_wp2
        go_ret
        exact ⟨by first | rfl | (simp <;> rfl) | (simp [*] <;> rfl), kR2 HI0, kR3 HB, kR4 HK⟩

/-! ### spec_l11DrawPages: function 70 -/
def spec_l11DrawPages.l0 : Nat → Int → List (S79) → Int → Int → List Int → Int → Int → Option ((List (S79)) × Int × Int)
 | 0, _, _, _, _, _, _, _ => none
 | k + 1, x2, x9, x10, x11, x1000, x1001, x1002 => if x11 > 0 then ((spec_l00Src_pick.f x1000 x1001 x1002 3).bind fun bt141 => (if (wrap64 (x10 + bt141.1)) > x2 then (some (x9, bt141.2.1, bt141.2.2)) else ((spec_l09DrawBlock.f k x1000 bt141.2.1 bt141.2.2).bind fun bt144 => (if x9.length < 5864062014805 then (spec_l11DrawPages.l0 k x2 (x9 ++ [(⟨wrap64 (x10 + bt141.1), bt144.1⟩ : S79)]) (wrap64 ((wrap64 (x10 + bt141.1)) + 1)) (wrap64 (x11 - 1)) x1000 bt144.2.1 bt144.2.2) else (none))))) else (some (x9, x1001, x1002))
def spec_l11DrawPages.f (k : Nat) (s0_0 : List Int) (s0_1 : Int) (s0_2 : Int) (a1 : Int) (a2 : Int) (a3 : Int) : Option ((List (S79)) × Int × Int) := (spec_l00Src_pick.f s0_0 s0_1 s0_2 (wrap64 (a3 + 1))).bind fun bt138 => (spec_l11DrawPages.l0 k a2 (([] : List (S79))) a1 bt138.1 s0_0 bt138.2.1 bt138.2.2)
theorem spec_l11DrawPages.mono_l : ∀ k, (∀ y0 y1 y2 y3 y4 y5 y6, LeO (spec_l11DrawPages.l0 k y0 y1 y2 y3 y4 y5 y6) (spec_l11DrawPages.l0 (k + 1) y0 y1 y2 y3 y4 y5 y6))
 | 0 => fun _ _ _ _ _ _ _ r h => by simp [spec_l11DrawPages.l0] at h
 | k + 1 => by
  have ih0 := spec_l11DrawPages.mono_l k
  · intro y0 y1 y2 y3 y4 y5 y6
    unfold spec_l11DrawPages.l0
    repeat' (with_reducible first | exact ih0 _ _ _ _ _ _ _ | exact spec_l09DrawBlock.mono _ _ _ _ | exact LeO.refl _ | exact LeO.none _ | refine LeO.ite ?_ ?_ | refine LeO.bind ?_ (fun _ => ?_))
theorem spec_l11DrawPages.mono : ∀ a0 a1 a2 a3 a4 a5 k, LeO (spec_l11DrawPages.f k a0 a1 a2 a3 a4 a5) (spec_l11DrawPages.f (k + 1) a0 a1 a2 a3 a4 a5) := by
 intro a0 a1 a2 a3 a4 a5 k
 have ih0 := spec_l11DrawPages.mono_l k
 unfold spec_l11DrawPages.f
 repeat' (with_reducible first | exact ih0 _ _ _ _ _ _ _ | exact spec_l09DrawBlock.mono _ _ _ _ | exact LeO.refl _ | exact LeO.none _ | refine LeO.ite ?_ ?_ | refine LeO.bind ?_ (fun _ => ?_))
set_option maxHeartbeats 8000000 in
set_option maxRecDepth 100000 in
theorem spec_l11DrawPages.calls (k : Nat) (g : Nat) (s0_0 : List Int) (s0_1 : Int) (s0_2 : Int) (a1 : Int) (a2 : Int) (a3 : Int) (r1 : List (S79)) (r2 : Int) (r3 : Int) (w0 w : World) (hI : IsS99 w0 w g s0_0 s0_1 s0_2) (hB : Below w0.heap.size w0 w) (h : spec_l11DrawPages.f k s0_0 s0_1 s0_2 a1 a2 a3 = some (r1, r2, r3)) :
 Calls Try.prog 70 #[.pointer (some ⟨g, 0, none⟩), .int .i64 a1, .int .i64 a2, .int .i64 a3] w fun e w' => ∃ v0_ : Value, e = .returned (v0_) ∧ Kd.R k79 79 w' w.heap.size (fun _ => True) v0_ r1 ∧ IsS99 w0 w' g s0_0 r2 r3 ∧ Below w0.heap.size w0 w' ∧ KeepBut w w' g none := by
 have hu79 := Try.underlying79
 have HI0 := yD hI
 have HK := yD (KeepBut.refl w g none)
 have HL := yD hB.size
 clear hI
 have HW0 := yD hB.size
 have HB := yD hB
 clear hB
 have H : ((spec_l00Src_pick.f s0_0 s0_1 s0_2 (wrap64 (a3 + 1))).bind fun bt138 => (spec_l11DrawPages.l0 k a2 (([] : List (S79))) a1 bt138.1 s0_0 bt138.2.1 bt138.2.2)) = some (r1, r2, r3) := h
 clear h
 obtain ⟨y135, hy135⟩ : ∃ y_ : List (S79), y_ = (([] : List (S79))) := ⟨_, rfl⟩
 replace H : ((spec_l00Src_pick.f s0_0 s0_1 s0_2 (wrap64 (a3 + 1))).bind fun bt138 => (spec_l11DrawPages.l0 k a2 y135 a1 bt138.1 s0_0 bt138.2.1 bt138.2.2)) = some (r1, r2, r3) := by first | (rw [hy135]; with_reducible exact H) | (have H2_ := (Option.bind_some _ _).symm.trans H; rw [hy135]; with_reducible exact H2_) | (have H2_ := (Option.bind_some _ _).symm.trans H; with_reducible exact H2_) | with_reducible exact H | (rw [hy135]; exact H) | exact H
 have Ny135 := yD hy135
 clear hy135
 obtain ⟨⟨t138, t139, t140⟩, A50, H⟩ := zW_ H
 replace H : (spec_l11DrawPages.l0 k a2 y135 a1 t138 s0_0 t139 t140) = some (r1, r2, r3) := H
 have A5 := yD A50
 clear A50
 have H' := yD H
 clear H; go_enter Try.func70, Try.ntmps70
 go_wp2_with (first | ((with_reducible refine gate_dst (N := 12) rfl ?_); refine Kd.R_lit k79 _ 79 ?hg (N := 12) ?hd (xs := ([] : List (S79))) (inner := []) (ok := fun _ => True) (okp := fun _ => True) ?hr ?hp (fun _ hk => hk) trivial (Below.refl _ _) (Nat.le_refl _) (by simp) ?_; (case hd => rfl); (case hg => rfl); (case hr => first | (go_simp; done) | (go_simp; rfl)); (case hp => exact (Reps.none _ _)); intro v136 w6 ho7 hb hg_ hnew_; clear hg_ hnew_; (first | rw [← Ny135.out] at ho7 | (simp only [Int.reduceToNat] at ho7; rw [← Ny135.out] at ho7)); have HO137 := yD (yZ ho7 (keep_size (w := w) (g := g) (row := none) (kR4 HK))); replace HI0 := yD (IsS99.below (kR2 HI0) hb); replace HK := yD (KeepBut.trans (kR4 HK) (KeepBut.of_below hb g none) (.inl rfl)); replace HB := yD (zC (kR3 HB) hb); clear hb ho7) | ((with_reducible refine gate_callee (f := 71) rfl ?_); refine gL 17 Try.func71 #[.pointer (some ⟨g, 0, none⟩), .int .i64 (wrap64 (a3 + 1))] ?_; (with_reducible refine (spec_l00Src_pick.calls g s0_0 s0_1 s0_2 (wrap64 (a3 + 1)) t138 t139 t140 w0 _ ?side1 ?side2 A5.out).mono ?_); (case side1 => exact kR2 HI0); (case side2 => exact kR3 HB); rintro e w8 ⟨rfl, hi, hb, hk⟩; refine ⟨_, rfl, ?_⟩; replace HO137 := yD (zF (Kd.R_keep (IsS99.apart (show IsS99 w0 _ g s0_0 s0_1 s0_2 from kR2 HI0) (kA HO137) (by decide)) hk (fun _ h => h.2)) (fun _ h => h.1)); replace HK := yD (KeepBut.trans (kR4 HK) hk (.inl rfl)); replace HB := yD (hb); replace HI0 := yD (hi); clear hb hk hi))
 (try simp only [Act.put, zH, zI, zJ])
 go_loopg [9, 10, 11] k (fun kq v9 v10 v11 w' => ∃ (x9_1 : List (S79)) (x10_1 : Int) (x11_1 : Int) (x1001_1 : Int) (x1002_1 : Int), v10 = .int .i64 x10_1 ∧ v11 = .int .i64 x11_1 ∧ Aside0 (spec_l11DrawPages.l0 kq a2 x9_1 x10_1 x11_1 s0_0 x1001_1 x1002_1 = some (r1, r2, r3)) ∧ Aside0 (kq ≤ k) ∧ Aside0 (Kd.R k79 79 w' w.heap.size (fun _ => True) v9 x9_1) ∧ Aside0 (IsS99 w0 w' g s0_0 x1001_1 x1002_1) ∧ Aside0 (KeepBut w w' g none) ∧ Aside0 (Below w0.heap.size w0 w'))
 case atStart => exact ⟨(y135), (a1), (t138), (t139), (t140), (by first | rfl | (simp; done) | (simp [*]; done)), (by first | rfl | (simp; done) | (simp [*]; done)), H', ⟨Nat.le_refl _⟩, ⟨kA HO137⟩, ⟨kR2 HI0⟩, ⟨kR4 HK⟩, ⟨kR3 HB⟩⟩
 case round =>
  clear H'
  try clear p2
  obtain ⟨x9_1, x10_1, x11_1, x1001_1, x1002_1, rfl, rfl, HA, HK1, HO_9, HI0, HK, HB⟩ := hrel
  cases gk with
  | zero => exact absurd HA.out (by simp [spec_l11DrawPages.l0])
  | succ k1 =>
   have H := HA.out; clear HA
   simp only [spec_l11DrawPages.l0] at H
   by_cases c9 : x11_1 > 0
   ·
    rw [if_pos c9] at H
    have c9b0 : decide (0 < x11_1) = true := zR c9; clear c9
    obtain ⟨⟨t141, t142, t143⟩, A100, H⟩ := zW_ H
    replace H : (if (wrap64 (x10_1 + t141)) > a2 then (some (x9_1, t142, t143)) else ((spec_l09DrawBlock.f k1 s0_0 t142 t143).bind fun bt144 => (if x9_1.length < 5864062014805 then (spec_l11DrawPages.l0 k1 a2 (x9_1 ++ [(⟨wrap64 (x10_1 + t141), bt144.1⟩ : S79)]) (wrap64 ((wrap64 (x10_1 + t141)) + 1)) (wrap64 (x11_1 - 1)) s0_0 bt144.2.1 bt144.2.2) else (none)))) = some (r1, r2, r3) := H
    have A10 := yD A100
    clear A100
    by_cases c11 : (wrap64 (x10_1 + t141)) > a2
    · rw [if_pos c11] at H
      have c11b0 : decide (a2 < (wrap64 (x10_1 + t141))) = true := zR c11; clear c11
      simp only [Option.some.injEq, Prod.mk.injEq] at H
      obtain ⟨rfl, rfl, rfl⟩ := H
      go_wp2_with (first | ((with_reducible refine gate_callee (f := 71) rfl ?_); refine gL 24 Try.func71 #[.pointer (some ⟨g, 0, none⟩), .int .i64 3] ?_; (with_reducible refine (spec_l00Src_pick.calls g s0_0 x1001_1 x1002_1 3 t141 t142 t143 w0 _ ?side1 ?side2 A10.out).mono ?_); (case side1 => exact kR2 HI0); (case side2 => exact kR3 HB); rintro e w12 ⟨rfl, hi, hb, hk⟩; refine ⟨_, rfl, ?_⟩; replace HO_9 := yD (zF (Kd.R_keep (IsS99.apart (show IsS99 w0 _ g s0_0 x1001_1 x1002_1 from kR2 HI0) (kA HO_9) (by decide)) hk (fun _ h => h.2)) (fun _ h => h.1)); replace HK := yD (KeepBut.trans (kR4 HK) hk (.inl rfl)); replace HB := yD (hb); replace HI0 := yD (hi); clear hb hk hi))
      go_ret
      exact ⟨_, by first | rfl | (simp <;> rfl) | (simp [*] <;> rfl), kA HO_9, kR2 HI0, kR3 HB, kR4 HK⟩
    ·
     rw [if_neg c11] at H
     have c11b0 : decide (a2 < (wrap64 (x10_1 + t141))) = false := zS c11; clear c11
     obtain ⟨⟨t144, t145, t146⟩, A130, H⟩ := zW_ H
     replace H : (if x9_1.length < 5864062014805 then (spec_l11DrawPages.l0 k1 a2 (x9_1 ++ [(⟨wrap64 (x10_1 + t141), t144⟩ : S79)]) (wrap64 ((wrap64 (x10_1 + t141)) + 1)) (wrap64 (x11_1 - 1)) s0_0 t145 t146) else (none)) = some (r1, r2, r3) := H
     have A13 := yD A130
     clear A130
     by_cases c14 : x9_1.length < 5864062014805
     ·
      rw [if_pos c14] at H
      have LMc14 := yD c14
      clear c14
      obtain ⟨y147, hy147⟩ : ∃ y_ : List (S79), y_ = (x9_1 ++ [(⟨wrap64 (x10_1 + t141), t144⟩ : S79)]) := ⟨_, rfl⟩
      replace H : (spec_l11DrawPages.l0 k1 a2 y147 (wrap64 ((wrap64 (x10_1 + t141)) + 1)) (wrap64 (x11_1 - 1)) s0_0 t145 t146) = some (r1, r2, r3) := by first | (rw [hy147]; with_reducible exact H) | (have H2_ := (Option.bind_some _ _).symm.trans H; rw [hy147]; with_reducible exact H2_) | (have H2_ := (Option.bind_some _ _).symm.trans H; with_reducible exact H2_) | with_reducible exact H | (rw [hy147]; exact H) | exact H
      have Ny147 := yD hy147
      clear hy147
      have H' := yD H
      clear H
      go_wp2_with (first | ((with_reducible refine gate_callee (f := 71) rfl ?_); refine gL 24 Try.func71 #[.pointer (some ⟨g, 0, none⟩), .int .i64 3] ?_; (with_reducible refine (spec_l00Src_pick.calls g s0_0 x1001_1 x1002_1 3 t141 t142 t143 w0 _ ?side1 ?side2 A10.out).mono ?_); (case side1 => exact kR2 HI0); (case side2 => exact kR3 HB); rintro e w15 ⟨rfl, hi, hb, hk⟩; refine ⟨_, rfl, ?_⟩; replace HO_9 := yD (zF (Kd.R_keep (IsS99.apart (show IsS99 w0 _ g s0_0 x1001_1 x1002_1 from kR2 HI0) (kA HO_9) (by decide)) hk (fun _ h => h.2)) (fun _ h => h.1)); replace HK := yD (KeepBut.trans (kR4 HK) hk (.inl rfl)); replace HB := yD (hb); replace HI0 := yD (hi); clear hb hk hi) | ((with_reducible refine gate_callee (f := 78) rfl ?_); refine gL 32 Try.func78 #[.pointer (some ⟨g, 0, none⟩)] ?_; (with_reducible refine (spec_l09DrawBlock.calls k1 g s0_0 t142 t143 t144 t145 t146 w0 _ ?side1 ?side2 A13.out).mono ?_); (case side1 => exact kR2 HI0); (case side2 => exact kR3 HB); rintro e w16 ⟨rfl, hi, hb, hk⟩; refine ⟨_, rfl, ?_⟩; replace HO_9 := yD (zF (Kd.R_keep (IsS99.apart (show IsS99 w0 _ g s0_0 t142 t143 from kR2 HI0) (kA HO_9) (by decide)) hk (fun _ h => h.2)) (fun _ h => h.1)); replace HK := yD (KeepBut.trans (kR4 HK) hk (.inl rfl)); replace HB := yD (hb); replace HI0 := yD (hi); clear hb hk hi) | ((with_reducible refine gate_builtin (b := .append) (xs := #[.tmp 29, .tmp 34]) rfl ?_); at_builtin; refine Kd.R_append k79 w.heap.size rfl (.tmp 29) (.tmp 34) 38 79 (.agg #[(.int .i64 0), (.string ⟨#[]⟩)]) 24 rfl Try.underlying38 info79 rfl (by decide) (by omega) u9 x9_1 (⟨wrap64 (x10_1 + t141), t144⟩ : S79) [.int .i64 (wrap64 (x10_1 + t141)), .string t144] (fun _ => True) (fun _ => False) rfl rfl ?aP (fun _ hk => hk.elim) ?aF ?aO (Below.refl _ _) ?aS ?aL ?_; (case aP => exact k79_mkM _ _ _ (⟨wrap64 (x10_1 + t141), t144⟩ : S79)); (case aF => exact (fun _ _ => trivial)); (case aO => exact (kA HO_9)); (case aS => exact (keep_size (w := w) (g := g) (row := none) (kR4 HK))); (case aL => have := LMc14.out; omega); intro v148 w17 ho hb hg hat; rw [← Ny147.out] at ho; replace HI0 := yD (IsS99.grown (kR2 HI0) hg (IsS99.own_ne HI0.out HO_9.out (by decide))); replace HB := yD (below_weaken (kR3 HB) HL.out hb); replace HK := yD (KeepBut.trans (kR4 HK) (KeepBut.of_grown hg g) (Kd.R_base2 HO_9.out)); have HO149 := yD (ho); clear HO_9; clear ho hb hg hat))
      go_roundg k1
      case measure => have := HK1.out; omega
      case rel => exact ⟨(y147), (wrap64 ((wrap64 (x10_1 + t141)) + 1)), (wrap64 (x11_1 - 1)), (t145), (t146), (by first | rfl | (simp; done) | (simp [*]; done)), (by first | rfl | (simp; done) | (simp [*]; done)), H', ⟨by have := HK1.out; omega⟩, ⟨kA HO149⟩, ⟨kR2 HI0⟩, ⟨kR4 HK⟩, ⟨kR3 HB⟩⟩
     · rw [if_neg c14] at H
       exact absurd H (by simp)
   ·
    rw [if_neg c9] at H
    have c9b0 : decide (0 < x11_1) = false := zS c9; clear c9
    simp only [Option.some.injEq, Prod.mk.injEq] at H
    obtain ⟨rfl, rfl, rfl⟩ := H
    go_wp2
    go_ret
    exact ⟨_, by first | rfl | (simp <;> rfl) | (simp [*] <;> rfl), kA HO_9, kR2 HI0, kR3 HB, kR4 HK⟩

/-! ### spec_l00Src_among: function 73 -/
def spec_l00Src_among.f (s0_0 : List Int) (s0_1 : Int) (s0_2 : Int) (l1 : List Int) : Option (Int × Int × Int) := (spec_l00Src_pick.f s0_0 s0_1 s0_2 (l1.length : Int)).bind fun bt150 => (if 0 ≤ bt150.1 then (if bt150.1 < (l1.length : Int) then (some (rd l1 bt150.1, bt150.2.1, bt150.2.2)) else (none)) else (none))
set_option maxHeartbeats 8000000 in
set_option maxRecDepth 100000 in
theorem spec_l00Src_among.calls (g : Nat) (s0_0 : List Int) (s0_1 : Int) (s0_2 : Int) (A1 : Option Addr) (c1 : Nat) (l1 : List Int) (r1 : Int) (r2 : Int) (r3 : Int) (w0 w : World) (hI : IsS99 w0 w g s0_0 s0_1 s0_2) (hB : Below w0.heap.size w0 w) (hr1 : Kd.C (Kd.int .i64) w A1 l1.length l1) (hc1 : l1.length ≤ c1) (hf1 : ∀ ad, A1 = some ad → 0 < l1.length → ad.block ≠ g) (h : spec_l00Src_among.f s0_0 s0_1 s0_2 l1 = some (r1, r2, r3)) :
 Calls Try.prog 73 #[.pointer (some ⟨g, 0, none⟩), .slice A1 l1.length c1] w fun e w' => e = .returned (.int .i64 r1) ∧ IsS99 w0 w' g s0_0 r2 r3 ∧ Below w0.heap.size w0 w' ∧ KeepBut w w' g none := by
 have HR1 := yD hr1
 have HC1 := yD hc1
 clear hr1 hc1
 have HI0 := yD hI
 have HK := yD (KeepBut.refl w g none)
 have HL := yD hB.size
 clear hI
 have HW0 := yD hB.size
 have HB := yD hB
 clear hB
 have H : ((spec_l00Src_pick.f s0_0 s0_1 s0_2 (l1.length : Int)).bind fun bt150 => (if 0 ≤ bt150.1 then (if bt150.1 < (l1.length : Int) then (some (rd l1 bt150.1, bt150.2.1, bt150.2.2)) else (none)) else (none))) = some (r1, r2, r3) := h
 clear h
 obtain ⟨⟨t150, t151, t152⟩, A30, H⟩ := zW_ H
 replace H : (if 0 ≤ t150 then (if t150 < (l1.length : Int) then (some (rd l1 t150, t151, t152)) else (none)) else (none)) = some (r1, r2, r3) := H
 have A3 := yD A30
 clear A30
 by_cases c4 : 0 ≤ t150
 ·
  rw [if_pos c4] at H
  have c4b0 : decide (0 ≤ t150) = true := zR c4; clear c4
  by_cases c5 : t150 < (l1.length : Int)
  ·
   rw [if_pos c5] at H
   have c5b0 : decide (t150 < (l1.length : Int)) = true := zR c5; clear c5
   simp only [Option.some.injEq, Prod.mk.injEq] at H
   obtain ⟨rfl, rfl, rfl⟩ := H
   go_enter Try.func73, Try.ntmps73
   go_wp2_with (first | ((with_reducible refine gate_callee (f := 71) rfl ?_); refine gL 9 Try.func71 #[.pointer (some ⟨g, 0, none⟩), .int .i64 (l1.length : Int)] ?_; (with_reducible refine (spec_l00Src_pick.calls g s0_0 s0_1 s0_2 (l1.length : Int) t150 t151 t152 w0 _ ?side1 ?side2 A3.out).mono ?_); (case side1 => exact kR2 HI0); (case side2 => exact kR3 HB); rintro e w6 ⟨rfl, hi, hb, hk⟩; refine ⟨_, rfl, ?_⟩; replace HK := yD (KeepBut.trans (kR4 HK) hk (.inl rfl)); replace HB := yD (hb); replace HI0 := yD (hi); clear hb hk hi; have p153 : 0 ≤ (t150 : Int) := zP (by assumption); have q153 : t150 < (l1.length : Int) := zP (by assumption); obtain ⟨ad153, e153, hx153_0⟩ := Kd.at_int HR1.out t150 p153 q153; cases e153; replace hx153_0 := keep_cell HK.out hx153_0 (by first | (rw [add_block]; exact hf1 _ rfl (by omega)) | exact hf1 _ rfl (by omega) | exact hf1 ad153 rfl (by omega)); replace p153 := eq_true p153; replace q153 := eq_true q153))
   go_ret
   exact ⟨by first | rfl | (simp <;> rfl) | (simp [*] <;> rfl), kR2 HI0, kR3 HB, kR4 HK⟩
  · rw [if_neg c5] at H
    exact absurd H (by simp)
 · rw [if_neg c4] at H
   exact absurd H (by simp)

/-! ### spec_l09Zero: function 74 -/
def spec_l09Zero.f  : Option (ByteArray) := if 64 ≤ 281474976710656 then (some (strOfNums (List.replicate 64 0))) else (none)
set_option maxHeartbeats 8000000 in
set_option maxRecDepth 100000 in
theorem spec_l09Zero.calls  (r : ByteArray) (w : World) (h : spec_l09Zero.f  = some r) :
 Calls Try.prog 74 #[] w fun e w' => e = .returned (.string r) ∧ Below w.heap.size w w' := by
 have HB := yD (Below.refl w.heap.size w)
 have H : (if 64 ≤ 281474976710656 then (some (strOfNums (List.replicate 64 0))) else (none)) = some r := h
 clear h
 by_cases c1 : 64 ≤ 281474976710656
 ·
  rw [if_pos c1] at H
  have c1b0 := eq_true c1
  have c1b1 : decide (64 ≤ 281474976710656) = true := zR c1; clear c1
  obtain ⟨y154, hy154⟩ : ∃ y_ : List Int, y_ = (List.replicate 64 0) := ⟨_, rfl⟩
  replace H : (some (strOfNums y154)) = some r := by first | (rw [hy154]; with_reducible exact H) | (have H2_ := (Option.bind_some _ _).symm.trans H; rw [hy154]; with_reducible exact H2_) | (have H2_ := (Option.bind_some _ _).symm.trans H; with_reducible exact H2_) | with_reducible exact H | (rw [hy154]; exact H) | exact H
  have Ny154 := yD hy154
  clear hy154; obtain rfl := Option.some.inj H; go_enter Try.func74, Try.ntmps74
  go_wp2_with (first | ((with_reducible refine gate_dst (N := 1) rfl ?_); refine Kd.R_make (Kd.int .u8) _ 5 rfl (N := 1) rfl 44 _ _ rfl 64 rfl rfl Try.underlying44 (.int .u8 0) 1 info5 rfl (by decide) (by omega) 0 (ok := fun _ => True) (okp := fun _ => True) rfl (fun _ hk => hk) trivial (by omega) (by omega) (Below.refl _ _) (Nat.le_refl _) ?_; intro v155 w2 ho3 hb hg_ hnew_; clear hg_ hnew_; (first | rw [← Ny154.out] at ho3 | (simp only [Int.reduceToNat] at ho3; rw [← Ny154.out] at ho3)); have HO156 := yD (yZ ho3 (below_size (kB HB))); replace HB := yD (zC (kB HB) hb); clear hb ho3; have hcv4 := own_string (P := Try.prog) Try.underlying44 Try.underlying5 Try.underlying9 (Kd.own_of_R HO156.out)))
  go_ret
  exact ⟨by first | rfl | (simp <;> rfl) | (simp [*] <;> rfl), kR0 HB⟩
 · rw [if_neg c1] at H
   exact absurd H (by simp)

/-! ### spec_l00Src_word: function 75 -/
def spec_l00Src_word.l0 : Nat → List Int → Int → List Int → Int → Int → Option (ByteArray × Int × Int)
 | 0, _, _, _, _, _ => none
 | k + 1, x5, x6, x1000, x1001, x1002 => if x6 > 0 then ((spec_l00Src_next.f x1000 x1001 x1002).bind fun bt163 => (if x5.length < 140737488355328 then (spec_l00Src_word.l0 k (x5 ++ [(bt163.1) % 256]) (wrap64 (x6 - 1)) x1000 bt163.2.1 bt163.2.2) else (none))) else (some (strOfNums x5, x1001, x1002))
def spec_l00Src_word.f (k : Nat) (s0_0 : List Int) (s0_1 : Int) (s0_2 : Int) (a1 : Int) : Option (ByteArray × Int × Int) := (spec_l00Src_pick.f s0_0 s0_1 s0_2 a1).bind fun bt160 => (spec_l00Src_word.l0 k (([] : List Int)) bt160.1 s0_0 bt160.2.1 bt160.2.2)
theorem spec_l00Src_word.mono_l : ∀ k, (∀ y0 y1 y2 y3 y4, LeO (spec_l00Src_word.l0 k y0 y1 y2 y3 y4) (spec_l00Src_word.l0 (k + 1) y0 y1 y2 y3 y4))
 | 0 => fun _ _ _ _ _ r h => by simp [spec_l00Src_word.l0] at h
 | k + 1 => by
  have ih0 := spec_l00Src_word.mono_l k
  · intro y0 y1 y2 y3 y4
    unfold spec_l00Src_word.l0
    repeat' (with_reducible first | exact ih0 _ _ _ _ _ | exact LeO.refl _ | exact LeO.none _ | refine LeO.ite ?_ ?_ | refine LeO.bind ?_ (fun _ => ?_))
theorem spec_l00Src_word.mono : ∀ a0 a1 a2 a3 k, LeO (spec_l00Src_word.f k a0 a1 a2 a3) (spec_l00Src_word.f (k + 1) a0 a1 a2 a3) := by
 intro a0 a1 a2 a3 k
 have ih0 := spec_l00Src_word.mono_l k
 unfold spec_l00Src_word.f
 repeat' (with_reducible first | exact ih0 _ _ _ _ _ | exact LeO.refl _ | exact LeO.none _ | refine LeO.ite ?_ ?_ | refine LeO.bind ?_ (fun _ => ?_))
set_option maxHeartbeats 8000000 in
set_option maxRecDepth 100000 in
theorem spec_l00Src_word.calls (k : Nat) (g : Nat) (s0_0 : List Int) (s0_1 : Int) (s0_2 : Int) (a1 : Int) (r1 : ByteArray) (r2 : Int) (r3 : Int) (w0 w : World) (hI : IsS99 w0 w g s0_0 s0_1 s0_2) (hB : Below w0.heap.size w0 w) (h : spec_l00Src_word.f k s0_0 s0_1 s0_2 a1 = some (r1, r2, r3)) :
 Calls Try.prog 75 #[.pointer (some ⟨g, 0, none⟩), .int .i64 a1] w fun e w' => e = .returned (.string r1) ∧ IsS99 w0 w' g s0_0 r2 r3 ∧ Below w0.heap.size w0 w' ∧ KeepBut w w' g none := by
 have HI0 := yD hI
 have HK := yD (KeepBut.refl w g none)
 have HL := yD hB.size
 clear hI
 have HW0 := yD hB.size
 have HB := yD hB
 clear hB
 have H : ((spec_l00Src_pick.f s0_0 s0_1 s0_2 a1).bind fun bt160 => (spec_l00Src_word.l0 k (([] : List Int)) bt160.1 s0_0 bt160.2.1 bt160.2.2)) = some (r1, r2, r3) := h
 clear h
 obtain ⟨y157, hy157⟩ : ∃ y_ : List Int, y_ = (([] : List Int)) := ⟨_, rfl⟩
 replace H : ((spec_l00Src_pick.f s0_0 s0_1 s0_2 a1).bind fun bt160 => (spec_l00Src_word.l0 k y157 bt160.1 s0_0 bt160.2.1 bt160.2.2)) = some (r1, r2, r3) := by first | (rw [hy157]; with_reducible exact H) | (have H2_ := (Option.bind_some _ _).symm.trans H; rw [hy157]; with_reducible exact H2_) | (have H2_ := (Option.bind_some _ _).symm.trans H; with_reducible exact H2_) | with_reducible exact H | (rw [hy157]; exact H) | exact H
 have Ny157 := yD hy157
 clear hy157
 obtain ⟨⟨t160, t161, t162⟩, A30, H⟩ := zW_ H
 replace H : (spec_l00Src_word.l0 k y157 t160 s0_0 t161 t162) = some (r1, r2, r3) := H
 have A3 := yD A30
 clear A30
 have H' := yD H
 clear H; go_enter Try.func75, Try.ntmps75
 go_wp2_with (first | ((with_reducible refine gate_dst (N := 7) rfl ?_); refine Kd.R_lit (Kd.int .u8) _ 5 ?hg (N := 7) ?hd (xs := ([] : List Int)) (inner := []) (ok := fun _ => True) (okp := fun _ => True) ?hr ?hp (fun _ hk => hk) trivial (Below.refl _ _) (Nat.le_refl _) (by simp) ?_; (case hd => rfl); (case hg => rfl); (case hr => first | (go_simp; done) | (go_simp; rfl)); (case hp => exact (Reps.none _ _)); intro v158 w4 ho5 hb hg_ hnew_; clear hg_ hnew_; (first | rw [← Ny157.out] at ho5 | (simp only [Int.reduceToNat] at ho5; rw [← Ny157.out] at ho5)); have HO159 := yD (yZ ho5 (keep_size (w := w) (g := g) (row := none) (kR4 HK))); replace HI0 := yD (IsS99.below (kR2 HI0) hb); replace HK := yD (KeepBut.trans (kR4 HK) (KeepBut.of_below hb g none) (.inl rfl)); replace HB := yD (zC (kR3 HB) hb); clear hb ho5) | ((with_reducible refine gate_callee (f := 71) rfl ?_); refine gL 10 Try.func71 #[.pointer (some ⟨g, 0, none⟩), .int .i64 a1] ?_; (with_reducible refine (spec_l00Src_pick.calls g s0_0 s0_1 s0_2 a1 t160 t161 t162 w0 _ ?side1 ?side2 A3.out).mono ?_); (case side1 => exact kR2 HI0); (case side2 => exact kR3 HB); rintro e w6 ⟨rfl, hi, hb, hk⟩; refine ⟨_, rfl, ?_⟩; replace HO159 := yD (zF (Kd.R_keep (IsS99.apart (show IsS99 w0 _ g s0_0 s0_1 s0_2 from kR2 HI0) (kA HO159) (by decide)) hk (fun _ h => h.2)) (fun _ h => h.1)); replace HK := yD (KeepBut.trans (kR4 HK) hk (.inl rfl)); replace HB := yD (hb); replace HI0 := yD (hi); clear hb hk hi))
 (try simp only [Act.put, zH, zI, zJ])
 go_loopg [5, 6] k (fun kq v5 v6 w' => ∃ (x5_1 : List Int) (x6_1 : Int) (x1001_1 : Int) (x1002_1 : Int), v6 = .int .i64 x6_1 ∧ Aside0 (spec_l00Src_word.l0 kq x5_1 x6_1 s0_0 x1001_1 x1002_1 = some (r1, r2, r3)) ∧ Aside0 (kq ≤ k) ∧ Aside0 (Kd.R (Kd.int .u8) 5 w' w.heap.size (fun _ => True) v5 x5_1) ∧ Aside0 (IsS99 w0 w' g s0_0 x1001_1 x1002_1) ∧ Aside0 (KeepBut w w' g none) ∧ Aside0 (Below w0.heap.size w0 w'))
 case atStart => exact ⟨(y157), (t160), (t161), (t162), (by first | rfl | (simp; done) | (simp [*]; done)), H', ⟨Nat.le_refl _⟩, ⟨kA HO159⟩, ⟨kR2 HI0⟩, ⟨kR4 HK⟩, ⟨kR3 HB⟩⟩
 case round =>
  clear H'
  try clear p2
  obtain ⟨x5_1, x6_1, x1001_1, x1002_1, rfl, HA, HK1, HO_5, HI0, HK, HB⟩ := hrel
  cases gk with
  | zero => exact absurd HA.out (by simp [spec_l00Src_word.l0])
  | succ k1 =>
   have H := HA.out; clear HA
   simp only [spec_l00Src_word.l0] at H
   by_cases c7 : x6_1 > 0
   ·
    rw [if_pos c7] at H
    have c7b0 : decide (0 < x6_1) = true := zR c7; clear c7
    obtain ⟨⟨t163, t164, t165⟩, A80, H⟩ := zW_ H
    replace H : (if x5_1.length < 140737488355328 then (spec_l00Src_word.l0 k1 (x5_1 ++ [(t163) % 256]) (wrap64 (x6_1 - 1)) s0_0 t164 t165) else (none)) = some (r1, r2, r3) := H
    have A8 := yD A80
    clear A80
    by_cases c9 : x5_1.length < 140737488355328
    ·
     rw [if_pos c9] at H
     have LMc9 := yD c9
     clear c9
     obtain ⟨y166, hy166⟩ : ∃ y_ : List Int, y_ = (x5_1 ++ [(t163) % 256]) := ⟨_, rfl⟩
     replace H : (spec_l00Src_word.l0 k1 y166 (wrap64 (x6_1 - 1)) s0_0 t164 t165) = some (r1, r2, r3) := by first | (rw [hy166]; with_reducible exact H) | (have H2_ := (Option.bind_some _ _).symm.trans H; rw [hy166]; with_reducible exact H2_) | (have H2_ := (Option.bind_some _ _).symm.trans H; with_reducible exact H2_) | with_reducible exact H | (rw [hy166]; exact H) | exact H
     have Ny166 := yD hy166
     clear hy166
     have H' := yD H
     clear H
     go_wp2_with (first | ((with_reducible refine gate_callee (f := 79) rfl ?_); refine gL 17 Try.func79 #[.pointer (some ⟨g, 0, none⟩)] ?_; (with_reducible refine (spec_l00Src_next.calls g s0_0 x1001_1 x1002_1 t163 t164 t165 w0 _ ?side1 ?side2 A8.out).mono ?_); (case side1 => exact kR2 HI0); (case side2 => exact kR3 HB); rintro e w10 ⟨rfl, hi, hb, hk⟩; refine ⟨_, rfl, ?_⟩; replace HO_5 := yD (zF (Kd.R_keep (IsS99.apart (show IsS99 w0 _ g s0_0 x1001_1 x1002_1 from kR2 HI0) (kA HO_5) (by decide)) hk (fun _ h => h.2)) (fun _ h => h.1)); replace HK := yD (KeepBut.trans (kR4 HK) hk (.inl rfl)); replace HB := yD (hb); replace HI0 := yD (hi); clear hb hk hi) | ((with_reducible refine gate_builtin (b := .append) (xs := #[.tmp 15, .tmp 19]) rfl ?_); at_builtin; refine Kd.R_append (Kd.int .u8) w.heap.size rfl (.tmp 15) (.tmp 19) 44 5 (.int .u8 0) 1 rfl Try.underlying44 info5 rfl (by decide) (by omega) u5 x5_1 ((t163) % 256) [.int .u8 ((t163) % 256)] (fun _ => True) (fun _ => False) rfl rfl ?aP (fun _ hk => hk.elim) ?aF ?aO (Below.refl _ _) ?aS ?aL ?_; (case aP => exact rfl); (case aF => exact (fun _ _ => trivial)); (case aO => exact (kA HO_5)); (case aS => exact (keep_size (w := w) (g := g) (row := none) (kR4 HK))); (case aL => have := LMc9.out; omega); intro v167 w11 ho hb hg hat; rw [← Ny166.out] at ho; replace HI0 := yD (IsS99.grown (kR2 HI0) hg (IsS99.own_ne HI0.out HO_5.out (by decide))); replace HB := yD (below_weaken (kR3 HB) HL.out hb); replace HK := yD (KeepBut.trans (kR4 HK) (KeepBut.of_grown hg g) (Kd.R_base2 HO_5.out)); have HO168 := yD (ho); clear HO_5; clear ho hb hg hat))
     go_roundg k1
     case measure => have := HK1.out; omega
     case rel => exact ⟨(y166), (wrap64 (x6_1 - 1)), (t164), (t165), (by first | rfl | (simp; done) | (simp [*]; done)), H', ⟨by have := HK1.out; omega⟩, ⟨kA HO168⟩, ⟨kR2 HI0⟩, ⟨kR4 HK⟩, ⟨kR3 HB⟩⟩
    · rw [if_neg c9] at H
      exact absurd H (by simp)
   ·
    rw [if_neg c7] at H
    have c7b0 : decide (0 < x6_1) = false := zS c7; clear c7
    simp only [Option.some.injEq, Prod.mk.injEq] at H
    obtain ⟨rfl, rfl, rfl⟩ := H
    have hcv12 := own_string (P := Try.prog) Try.underlying44 Try.underlying5 Try.underlying9 (Kd.own_of_R HO_5.out)
    go_wp2
    go_ret
    exact ⟨by first | rfl | (simp <;> rfl) | (simp [*] <;> rfl), kR2 HI0, kR3 HB, kR4 HK⟩

end Go.Proofs.Ytfblodggimjoaaa.PFnMerged
