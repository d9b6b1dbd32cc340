/- Each Go function here comes to what the plain function of its name says, where that says something. Made by a program of this session, over the print. -/
import Derived.Test.YtkkdkeogplgkfaaPFnSelectedBoxesw1
import Derived.Test.YtkkdkeogplgkfaaProg
import Derived.RangeFuncBox
import Derived.RangeFuncWrites
import Derived.RangeFuncLeaves
import Derived.RangeFuncBound
import Derived.Shelf.Abstract
import Derived.OwnWalkIn
import Derived.TacticsInMore
import Derived.LoopNIn
import Derived.LoopIn
import Derived.RegionIn
import Derived.Lib.SliceRun
import Derived.Shelf.Spec.SlicesGrow
namespace Go.Proofs.Ytkkdkeogplgkfaa.PFnSelectedBoxes
open Go.RowKit Go.Proofs.YtkkdkeogplgkfaaW.PrintWords Go.Proofs.YtkkdkeogplgkfaaW.PrintLast Go.Proofs.YtkkdkeogplgkfaaW.PrintMore
attribute [local go_sem] max2_int min2_int max_two min_two max_three min_three max_four min_four
set_option linter.unusedVariables false
set_option linter.unusedSimpArgs false
abbrev oB (v : Value) (k : Nat) : Prop := some k ≠ v.ownBlock
def errW : Option Int → Value
 | none => .nilIface
 | some c => .iface 0 (.int .i64 c)
theorem info2 : (Try.prog.info? 2).map (fun i => (i.zero, i.size, i.bytes)) = some (some (.int .i64 0), 1, 8) := by kernel_rfl
theorem info33 : (Try.prog.info? 33).map (fun i => (i.zero, i.size, i.bytes)) = some (some (.agg #[(.slice none 0 0), (.slice none 0 0)]), 2, 48) := by kernel_rfl
theorem info68 : (Try.prog.info? 68).map (fun i => (i.zero, i.size, i.bytes)) = some (some (.agg #[(.slice none 0 0)]), 1, 24) := by kernel_rfl
def rd_L2 (xs : List (List Int)) (i : Int) : (List Int) := xs.getD i.toNat ([] : List Int)
theorem at_L2 {w : World} {A : Option Addr} {n : Nat} {xs : List (List Int)} (h : Kd.C (Kd.slice 2 (Kd.int .i64)) w A n xs) (i : Int) (h0 : 0 ≤ i) (h1 : i < n) : ∃ ad A0 c0, A = some ad ∧ w.cell? (ad.add i.toNat) = some (.slice A0 (rd_L2 xs i).length c0) ∧ aC ((rd_L2 xs i).length ≤ c0) ∧ aC ((Kd.int .i64).C w A0 (rd_L2 xs i).length (rd_L2 xs i)) := by
 obtain ⟨ad, c, e, _, hK, hc0⟩ := Kd.C_get h ([] : List Int) i h0 h1
 have hc : ∀ j u, c[j]? = some u → w.cell? (ad.add (i.toNat * 1 + j)) = some u := hc0
 obtain ⟨A0, c0, rfl, l0, g0⟩ := hK
 exact ⟨ad, A0, c0, e, by have hq := hc 0 _ rfl; rwa [Nat.mul_one, Nat.add_zero] at hq, ⟨l0⟩, ⟨g0⟩⟩
structure S68 where
 f0 : (List Int)
def z68 : S68 := ⟨([] : List Int)⟩
def k68 : Kd S68 := Kd.iso (Kd.slice 2 (Kd.int .i64)) (fun x : S68 => x.f0)
theorem k68_open {w : World} {x : S68} {cs : List Value} (h : k68.K w x cs) : ∃ A0 c0, cs = [.slice A0 x.f0.length c0] ∧ x.f0.length ≤ c0 ∧ (Kd.int .i64).C w A0 x.f0.length x.f0 := by
 obtain ⟨A0, c0, rfl, l0, g0⟩ := h
 exact ⟨A0, c0, rfl, l0, g0⟩
theorem k68_mkM (w : World) (base : Nat) (ok : Nat → Prop) (x : S68) {v0 : Value} (g0 : (Kd.int .i64).R 2 w base ok v0 x.f0) : k68.M w base ok x [v0] := ⟨v0, rfl, g0⟩
def bU (xs : List S68) (i : Int) : S68 := xs.getD i.toNat z68
theorem at_T68 {w : World} {A : Option Addr} {n : Nat} {xs : List S68} (h : Kd.C k68 w A n xs) (i : Int) (h0 : 0 ≤ i) (h1 : i < n) : ∃ ad A0 c0, A = some ad ∧ w.cell? (ad.add i.toNat) = some (.slice A0 (bU xs i).f0.length c0) ∧ aC ((bU xs i).f0.length ≤ c0) ∧ aC ((Kd.int .i64).C w A0 (bU xs i).f0.length (bU xs i).f0) := by
 obtain ⟨ad, c, e, _, hK, hc0⟩ := Kd.C_get h z68 i h0 h1
 have hc : ∀ j u, c[j]? = some u → w.cell? (ad.add (i.toNat * 1 + j)) = some u := hc0
 obtain ⟨A0, c0, rfl, l0, g0⟩ := k68_open hK
 exact ⟨ad, A0, c0, e, by have hq := hc 0 _ rfl; rwa [Nat.mul_one, Nat.add_zero] at hq, ⟨l0⟩, ⟨g0⟩⟩
structure S33 where
 f0 : (List Int)
 f1 : (List Int)
def z33 : S33 := ⟨([] : List Int), ([] : List Int)⟩
def k33 : Kd S33 := Kd.iso (Kd.pair (Kd.slice 2 (Kd.int .i64)) (Kd.slice 2 (Kd.int .i64))) (fun x : S33 => (x.f0, x.f1))
theorem k33_heap : Kd.Heap k33 := Kd.heap_iso _ (Kd.heap_pair (Kd.heap_slice 2 (Kd.heap_int .i64)) (Kd.heap_slice 2 (Kd.heap_int .i64)))
theorem k33_open {w : World} {x : S33} {cs : List Value} (h : k33.K w x cs) : ∃ A0 c0 A1 c1, cs = [.slice A0 x.f0.length c0, .slice A1 x.f1.length c1] ∧ x.f0.length ≤ c0 ∧ (Kd.int .i64).C w A0 x.f0.length x.f0 ∧ x.f1.length ≤ c1 ∧ (Kd.int .i64).C w A1 x.f1.length x.f1 := by
 obtain ⟨_, _, rfl, ⟨A0, c0, rfl, l0, g0⟩, ⟨A1, c1, rfl, l1, g1⟩⟩ := h
 exact ⟨A0, c0, A1, c1, rfl, l0, g0, l1, g1⟩
theorem k33_openM {w : World} {base : Nat} {ok : Nat → Prop} {x : S33} {cs : List Value} (h : k33.M w base ok x cs) : ∃ v0 v1, cs = [v0, v1] ∧ (Kd.int .i64).R 2 w base ok v0 x.f0 ∧ (Kd.int .i64).R 2 w base ok v1 x.f1 := by
 obtain ⟨_, _, rfl, ⟨v0, rfl, g0⟩, ⟨v1, rfl, g1⟩⟩ := h
 exact ⟨v0, v1, rfl, g0, g1⟩
theorem k33_mk (w : World) (x : S33) {A0 : Option Addr} {c0 : Nat} (l0 : x.f0.length ≤ c0) (g0 : (Kd.int .i64).C w A0 x.f0.length x.f0) {A1 : Option Addr} {c1 : Nat} (l1 : x.f1.length ≤ c1) (g1 : (Kd.int .i64).C w A1 x.f1.length x.f1) : k33.K w x [.slice A0 x.f0.length c0, .slice A1 x.f1.length c1] := ⟨[.slice A0 x.f0.length c0], [.slice A1 x.f1.length c1], rfl, ⟨A0, c0, rfl, l0, g0⟩, ⟨A1, c1, rfl, l1, g1⟩⟩
theorem k33_mkM (w : World) (base : Nat) (ok : Nat → Prop) (x : S33) {v0 : Value} (g0 : (Kd.int .i64).R 2 w base ok v0 x.f0) {v1 : Value} (g1 : (Kd.int .i64).R 2 w base ok v1 x.f1) : k33.M w base ok x [v0, v1] := ⟨[v0], [v1], rfl, ⟨v0, rfl, g0⟩, ⟨v1, rfl, g1⟩⟩
theorem k33_openF {W : World} {ok : Nat → Prop} {x : S33} {cs : List Value} (h : Kd.FK k33 W ok x cs) : ∃ A0 c0 A1 c1, cs = [.slice A0 x.f0.length c0, .slice A1 x.f1.length c1] ∧ x.f0.length ≤ c0 ∧ Kd.F (Kd.int .i64) W ok A0 x.f0.length x.f0 ∧ x.f1.length ≤ c1 ∧ Kd.F (Kd.int .i64) W ok A1 x.f1.length x.f1 := by
 obtain ⟨A0, c0, A1, c1, rfl, l0, _, l1, _⟩ := k33_open (Kd.FK_now h)
 exact ⟨A0, c0, A1, c1, rfl, l0, (fun W' hW => by obtain ⟨A0_, c0_, A1_, c1_, he, l0_, g0_, l1_, g1_⟩ := k33_open (h W' hW); injection (Option.some.inj (show some (Value.slice A0 x.f0.length c0) = some (Value.slice A0_ x.f0.length c0_) from congrArg (fun l => l[0]?) he)) with ha_ _ _; rw [ha_]; exact g0_), l1, (fun W' hW => by obtain ⟨A0_, c0_, A1_, c1_, he, l0_, g0_, l1_, g1_⟩ := k33_open (h W' hW); injection (Option.some.inj (show some (Value.slice A1 x.f1.length c1) = some (Value.slice A1_ x.f1.length c1_) from congrArg (fun l => l[1]?) he)) with ha_ _ _; rw [ha_]; exact g1_)⟩
theorem k33_mkF (W : World) (ok : Nat → Prop) (x : S33) {A0 : Option Addr} {c0 : Nat} (l0 : x.f0.length ≤ c0) (g0 : Kd.F (Kd.int .i64) W ok A0 x.f0.length x.f0) {A1 : Option Addr} {c1 : Nat} (l1 : x.f1.length ≤ c1) (g1 : Kd.F (Kd.int .i64) W ok A1 x.f1.length x.f1) : Kd.FK k33 W ok x [.slice A0 x.f0.length c0, .slice A1 x.f1.length c1] := fun W2 hW => k33_mk W2 x l0 (g0 W2 hW) l1 (g1 W2 hW)
def aA (xs : List S33) (i : Int) : S33 := xs.getD i.toNat z33
theorem at_T33 {w : World} {A : Option Addr} {n : Nat} {xs : List S33} (h : Kd.C k33 w A n xs) (i : Int) (h0 : 0 ≤ i) (h1 : i < n) : ∃ ad A0 c0 A1 c1, A = some ad ∧ w.cell? (ad.add (i.toNat * 2)) = some (.slice A0 (aA xs i).f0.length c0) ∧ w.cell? ⟨(ad.add (i.toNat * 2)).block, (ad.add (i.toNat * 2)).off + 1, none⟩ = some (.slice A1 (aA xs i).f1.length c1) ∧ aC ((aA xs i).f0.length ≤ c0) ∧ aC ((Kd.int .i64).C w A0 (aA xs i).f0.length (aA xs i).f0) ∧ aC ((aA xs i).f1.length ≤ c1) ∧ aC ((Kd.int .i64).C w A1 (aA xs i).f1.length (aA xs i).f1) := by
 obtain ⟨ad, c, e, _, hK, hc0⟩ := Kd.C_get h z33 i h0 h1
 have hc : ∀ j u, c[j]? = some u → w.cell? (ad.add (i.toNat * 2 + j)) = some u := hc0
 obtain ⟨A0, c0, A1, c1, rfl, l0, g0, l1, g1⟩ := k33_open hK
 exact ⟨ad, A0, c0, A1, c1, e, hc 0 _ rfl, by rw [← add_field _ _ 1 (by omega)]; exact hc 1 _ rfl, ⟨l0⟩, ⟨g0⟩, ⟨l1⟩, ⟨g1⟩⟩
def rd_L5 (xs : List (List S33)) (i : Int) : (List S33) := xs.getD i.toNat ([] : List S33)
def rd_L6 (xs : List (List Int)) (i : Int) : (List Int) := xs.getD i.toNat ([] : List Int)
theorem yA : type_of% @Kd.R_alloc := @Kd.R_alloc
theorem yB : type_of% @Kd.R_drewN := @Kd.R_drewN
theorem yC : type_of% @Kd.R_drew := @Kd.R_drew
theorem yD : type_of% @aC.mk := @aC.mk
theorem yE : type_of% @below_set := @below_set
theorem yF : type_of% @Kd.R_far := @Kd.R_far
theorem yG : type_of% @blk_cell := @blk_cell
theorem yH : type_of% @Kd.R_base := @Kd.R_base
theorem yI : type_of% @Kd.R_told := @Kd.R_told
theorem yJ : type_of% @Kd.R_new' := @Kd.R_new'
theorem yK : type_of% @Kd.R_lt := @Kd.R_lt
theorem yL : type_of% @pw_below_drewN := @pw_below_drewN
theorem yM : type_of% @blk_drewN := @blk_drewN
theorem yN : type_of% @blk_alloc := @blk_alloc
theorem yO : type_of% @blk_drew := @blk_drew
theorem yP : type_of% @below_drew1 := @below_drew1
theorem yQ : type_of% @below_alloc := @below_alloc
theorem yR : type_of% @blk_frozen := @blk_frozen
theorem yS : type_of% @Kd.S_alloc := @Kd.S_alloc
theorem yT : type_of% @Kd.S_drewN := @Kd.S_drewN
theorem yU : type_of% @Kd.S_drew := @Kd.S_drew
theorem yV : type_of% @Kd.C_alloc := @Kd.C_alloc
theorem yW : type_of% @Kd.C_drewN := @Kd.C_drewN
theorem yX : type_of% @Kd.C_drew := @Kd.C_drew
theorem yY : type_of% @Kd.C_below := @Kd.C_below
theorem yZ : type_of% @Kd.R_lower := @Kd.R_lower
theorem zA : type_of% @Kd.R_reads' := @Kd.R_reads'
theorem zB : type_of% @blk_below := @blk_below
theorem zC : type_of% @below_step := @below_step
theorem zD : type_of% @Kd.S_new' := @Kd.S_new'
theorem zE : type_of% @Kd.R_below := @Kd.R_below
theorem zF : type_of% @Kd.R_mono := @Kd.R_mono
theorem zG : type_of% @Kd.S_lower := @Kd.S_lower
theorem zH : type_of% @List.setIfInBounds_toArray := @List.setIfInBounds_toArray
theorem zI : type_of% @List.set_cons_zero := @List.set_cons_zero
theorem zJ : type_of% @List.set_cons_succ := @List.set_cons_succ
theorem zK : type_of% @List.map_toArray := @List.map_toArray
theorem zL : type_of% @List.map_cons := @List.map_cons
theorem zM : type_of% @List.map_nil := @List.map_nil
theorem zN : type_of% @List.length_drop := @List.length_drop
theorem zO : type_of% @List.length_take := @List.length_take
theorem zP : type_of% @of_decide_eq_true := @of_decide_eq_true
theorem zQ : type_of% @World.block_lt_of_cell? := @World.block_lt_of_cell?
theorem zR : type_of% @decide_eq_true := @decide_eq_true
theorem zS : type_of% @decide_eq_false := @decide_eq_false
theorem zW_ {α β : Type} {o : Option α} {f : α → Option β} {b : β} (h : o.bind f = some b) : ∃ a, o = some a ∧ f a = some b := Option.bind_eq_some_iff.mp h
def bl : Nat → Nat → List Bool
 | 0, _ => []
 | n + 1, b => Nat.beq (b % 2) 1 :: bl n (b / 2)
def bz (n b : Nat) : Array Bool := ⟨bl n b⟩
theorem kM {A B : Prop} (h : aC A) (f : A → B := by intro h_; (with_reducible repeat (first | refine yM ?_ _ | refine yO ?_ | refine yN ?_ _)); exact h_) : B := f h.out
theorem kA {A B : Prop} (h : aC A) (f : A → B := by intro h_; (with_reducible repeat (first | apply yA | apply yB | apply yC)); exact h_) : B := f h.out
theorem kB {A B : Prop} (h : aC A) (f : A → B := by intro h_; repeat (first | (with_reducible first | exact h_ | apply yQ | apply yL | apply yP | refine yE ?_ (aC.out (by assumption))) | exact h_)) : B := f h.out
theorem kV {A B : Prop} (h : A) (f : A → B := by intro h_; repeat (first | exact h_ | (with_reducible first | refine yV ?_ _ | refine yW ?_ _ | refine yX ?_))) : B := f h
theorem qA {P : Program} {ops : Array Oper} {Q : Exit → Act → World → Prop} {md : Region.Mode} {S : World → Prop} {ds : List Nat} (i : Nat) (n : Tmp) {oi : Oper} {v : Value} {fuel : Nat} {l : Array Bool} {a : Act} {w : World} (l' : Array Bool) {a' : Act} {T : Bool × List (List Nat × List Nat)} (hT : aC (rtab md ops = T))
 (h : bX P md ops Q S ds fuel l' a' w) (hi : ops[i]? = some oi := by rfl) (hN : oi.dst = some n := by rfl) (hc : anyT T l.toList l'.toList i = true := by kernel_rfl) (hQ : ∀ c a w, Q (.panic c) (a.put oi.dst v) w → Q (.panic c) a w := by exact fun _ _ _ h => h)
 (hw : Region.wanted oi (yielded ops a.tmps) = true := by rfl) (hy : ∀ w, (execOp a.eval oi).run P w = .ok (.value v) w := by intro _; go_simp; with_reducible rfl) (ha : a.put (some n) v = a' := by simp only [Act.put, zH, zI, zJ, i64_w, i32_w]; rfl) : bX P md ops Q S ds (fuel + 1) l a w := pure_ l' hi hN (any_of hT.out hc) hQ (Or.inl ⟨hw, hy⟩) ha h
theorem qB {P : Program} {ops : Array Oper} {Q : Exit → Act → World → Prop} {md : Region.Mode} {S : World → Prop} {ds : List Nat} (i : Nat) (n : Tmp) {oi : Oper} {fuel : Nat} {l : Array Bool} {a : Act} {w : World} (l' : Array Bool) {a' : Act} {T : Bool × List (List Nat × List Nat)} (hT : aC (rtab md ops = T))
 (h : bX P md ops Q S ds fuel l' a' w) (hi : ops[i]? = some oi := by rfl) (hN : oi.dst = some n := by rfl) (hc : anyT T l.toList l'.toList i = true := by kernel_rfl) (hQ : ∀ c a w, Q (.panic c) (a.put oi.dst undef) w → Q (.panic c) a w := by exact fun _ _ _ h => h)
 (hw : Region.wanted oi (yielded ops a.tmps) = false := by rfl) (ha : a.put (some n) undef = a' := by simp only [Act.put, zH, zI, zJ, i64_w, i32_w]; rfl) : bX P md ops Q S ds (fuel + 1) l a w := pure_ l' hi hN (any_of hT.out hc) hQ (Or.inr ⟨hw, rfl⟩) ha h
theorem qC {P : Program} {ops : Array Oper} {Q : Exit → Act → World → Prop} {md : Region.Mode} {S : World → Prop} {ds : List Nat} (i : Nat) (n : Tmp) {oi : Oper} {v : Value} {fuel : Nat} {l : Array Bool} {a : Act} {w : World} (l' : Array Bool) {a' : Act} {T : Bool × List (List Nat × List Nat)} {B : List Nat} (hT : aC (rtab md ops = T)) (hB : aC (waitsOk T.2 B = true)) (hS : S w)
 (h : bX P md ops Q S ds fuel l' a' w) (hi : ops[i]? = some oi := by rfl) (hN : oi.dst = some n := by rfl) (hc : takeW T B ds l.toList l'.toList i = true := by kernel_rfl)
 (hQ : ∀ c a w, Q (.panic c) (a.put oi.dst v) w → Q (.panic c) a w := by exact fun _ _ _ h => h) (hw : Region.wanted oi (yielded ops a.tmps) = true := by rfl) (hy : ∀ w, S w → (execOp a.eval oi).run P w = .ok (.value v) w) (ha : a.put (some n) v = a' := by simp only [Act.put, zH, zI, zJ, i64_w, i32_w]; rfl) : bX P md ops Q S ds (fuel + 1) l a w := take_ l' hi hN (take_ofW hT.out hB.out hc) hQ (Or.inl ⟨hw, hy⟩) hS ha h
theorem cz2 {w : World} {g : Nat} {t : TypeId} {a0 a1 : Value} (h : w.heap[g]? = some (.cells #[a0, a1] t (0, 0))) : w.cell? ⟨g, 0, none⟩ = some a0 ∧ w.cell? ⟨g, 1, none⟩ = some a1 := ⟨(yG h 0).trans rfl, (yG h 1).trans rfl⟩
theorem cz6 {w : World} {g : Nat} {t : TypeId} {a0 a1 a2 a3 a4 a5 : Value} (h : w.heap[g]? = some (.cells #[a0, a1, a2, a3, a4, a5] t (0, 0))) : w.cell? ⟨g, 0, none⟩ = some a0 ∧ w.cell? ⟨g, 1, none⟩ = some a1 ∧ w.cell? ⟨g, 2, none⟩ = some a2 ∧ w.cell? ⟨g, 3, none⟩ = some a3 ∧ w.cell? ⟨g, 4, none⟩ = some a4 ∧ w.cell? ⟨g, 5, none⟩ = some a5 := ⟨(yG h 0).trans rfl, (yG h 1).trans rfl, (yG h 2).trans rfl, (yG h 3).trans rfl, (yG h 4).trans rfl, (yG h 5).trans rfl⟩
theorem fz2 {w : World} {g : Nat} {t : TypeId} {cs : Array Value} (h : w.heap[g]? = some (.cells cs t (0, 0))) : w.frozen? ⟨g, 0, none⟩ = false ∧ w.frozen? ⟨g, 1, none⟩ = false := ⟨yR h 0, yR h 1⟩
theorem fz6 {w : World} {g : Nat} {t : TypeId} {cs : Array Value} (h : w.heap[g]? = some (.cells cs t (0, 0))) : w.frozen? ⟨g, 0, none⟩ = false ∧ w.frozen? ⟨g, 1, none⟩ = false ∧ w.frozen? ⟨g, 2, none⟩ = false ∧ w.frozen? ⟨g, 3, none⟩ = false ∧ w.frozen? ⟨g, 4, none⟩ = false ∧ w.frozen? ⟨g, 5, none⟩ = false := ⟨yR h 0, yR h 1, yR h 2, yR h 3, yR h 4, yR h 5⟩
theorem kR0 {B : Nat} {w W W' : World} (h : aC (Below B w W)) (f : Below B w W → Below B w W' := by intro h_; repeat (first | (with_reducible first | exact h_ | apply yQ | apply yL | apply yP) | exact h_)) : Below B w W' := f h.out
theorem kR1 {B : Nat} {w W W' : World} (h : aC (Below B w W)) (f : Below B w W → Below B w W' := by intro h_; repeat (first | (with_reducible first | exact h_ | apply yQ | apply yL | apply yP | refine yE ?_ (aC.out (by assumption))) | exact h_)) : Below B w W' := f h.out
theorem kR2 {A B : Prop} (h : aC (A)) (f : A → B := by intro h_; repeat (first | (with_reducible first | exact h_ | apply bB.alloc | apply bB.drewN | apply bB.drew | apply bB.set_1 | apply bB.set_2) | exact h_)) : B := f h.out
theorem kR3 {B : Nat} {w W W' : World} (h : aC (Below B w W)) (f : Below B w W → Below B w W' := by intro h_; repeat (first | (with_reducible first | exact h_ | apply yQ | apply yL | apply yP | refine yE ?_ (bB.ge (aC.out (by assumption)))) | exact h_)) : Below B w W' := f h.out
theorem kR4 {w W W' : World} {g : Nat} {row : Option Nat} (h : aC (aU w W g row)) (f : aU w W g row → aU w W' g row := by intro h_; repeat (first | (with_reducible first | exact h_ | apply aU.set_ | apply keep_drewN | apply keep_drew | apply keep_alloc) | exact h_)) : aU w W' g row := f h.out
theorem kR5 {A B : Prop} (h : aC (A)) (f : A → B := by intro h_; repeat (first | (with_reducible first | exact h_ | apply bB.alloc | apply bB.drewN | apply bB.drew | apply bB.set_1 | apply bB.set_2 | (apply bB.far; case hne => exact aC.out (by assumption))) | exact h_)) : B := f h.out
theorem kR6 {w W W' : World} {g : Nat} {row : Option Nat} (h : aC (aU w W g row)) (f : aU w W g row → aU w W' g row := by intro h_; repeat (first | (with_reducible first | exact h_ | apply aU.set_ | apply keep_drewN | apply keep_drew | apply keep_alloc | refine keep_far ?_ (aC.out (by assumption)) _) | exact h_)) : aU w W' g row := f h.out
theorem kR7 {B : Nat} {w W W' : World} (h : aC (Below B w W)) (f : Below B w W → Below B w W' := by intro h_; repeat (first | (with_reducible first | exact h_ | apply yQ | apply yL | apply yP | refine yE ?_ (bB.ge (aC.out (by assumption))) | refine yE ?_ (aC.out (by assumption))) | exact h_)) : Below B w W' := f h.out
theorem kR8 {A B : Prop} (h : aC (A)) (f : A → B := by intro h_; repeat (first | (with_reducible first | exact h_ | apply below_alloc | apply pw_below_drewN | apply below_drew1) | exact h_)) : B := f h.out
theorem gL {P : Program} {ops : Array Oper} {Q : Exit → Act → World → Prop} {rest : List Oper} {oi : Oper} {a : Act} {w : World} (N : Tmp) {f : FuncId} {fn : Func} {as' : Array Operand} {ts : Array TypeId} (hf : P.funcs[f]? = some fn) (args : Array Value)
 (h : Calls P f args w fun e w' => ∃ v, e = .returned v ∧ wpList P ops Q rest (a.put (some N) v) w') (hd : oi.dst = some N := by rfl) (hg : oi.guard = none := by rfl) (hname : (fn.name == "runtime.NumGoroutine") = false := by kernel_rfl) (hb : fn.body.isSome = true := by rfl) (hop : oi.op = .call { callee := .value (.func f), args := as', argTypes := ts } := by rfl)
 (hargs : as'.map a.eval = args := by (try simp only [zK, zL, zM]); first | done | rfl | (simp only [zN, zO]; rfl)) : wpList P ops Q (oi :: rest) a w := goesL_ (some N) hd hg hf hname hb args hop hargs h
theorem kN {W w : World} {g : Nat} {o : Obj} (h : aC (W.heap[g]? = some o)) (f : W.heap[g]? = some o → w.heap[g]? = some o := by intro h_; (with_reducible repeat (first | refine yM ?_ _ | refine yO ?_ | refine yN ?_ _)); exact h_) : w.heap[g]? = some o := f h.out
theorem kS {A B : Prop} (h : aC A) (f : A → B := by intro h_; (with_reducible repeat (first | apply yS | apply yT | apply yU)); exact h_) : B := f h.out
theorem kQ {A B : Prop} (h : aC A) (f : A → B := by intro h_; (with_reducible repeat (first | apply Kd.N_alloc | apply Kd.N_drewN | apply Kd.N_drew)); exact h_) : B := f h.out
theorem kU {A B : Prop} (h : aC A) (f : A → B := by intro h_; (with_reducible repeat (first | apply Kd.V_alloc | apply Kd.V_drewN | apply Kd.V_drew)); exact h_) : B := f h.out
theorem mN {α : Type} {d : Kd α} {e base : Nat} {W w : World} {ok ok' : Nat → Prop} {v : Value} {xs : List α} (h : aC (Kd.N d e W base ok v xs)) (hok : ∀ k, ok k → ok' k) (f : Kd.N d e W base ok' v xs → Kd.N d e w base ok' v xs := by intro h_; (with_reducible repeat (first | apply Kd.N_alloc | apply Kd.N_drewN | apply Kd.N_drew)); exact h_) : Kd.N d e w base ok' v xs := f (Kd.N_mono h.out hok)
theorem mR {α : Type} {d : Kd α} {e base : Nat} {W w : World} {ok ok' : Nat → Prop} {v : Value} {xs : List α} (h : aC (Kd.R d e W base ok v xs)) (hok : ∀ k, ok k → ok' k) (f : Kd.R d e W base ok' v xs → Kd.R d e w base ok' v xs := by intro h_; (with_reducible repeat (first | apply yA | apply yB | apply yC)); exact h_) : Kd.R d e w base ok' v xs := f (Kd.R_mono h.out hok)
theorem mS {α : Type} {d : Kd α} {e base : Nat} {W w : World} {ok ok' : Nat → Prop} {v : Value} {xs : List α} (h : aC (Kd.S d e W base ok v xs)) (hok : ∀ k, ok k → ok' k) (f : Kd.S d e W base ok' v xs → Kd.S d e w base ok' v xs := by intro h_; (with_reducible repeat (first | apply yS | apply yT | apply yU)); exact h_) : Kd.S d e w base ok' v xs := f (Kd.S_mono h.out hok)
theorem mV {α : Type} {d : Kd α} {e base : Nat} {W w : World} {ok ok' : Nat → Prop} {v : Value} {xs : List α} (h : aC (Kd.V d e W base ok v xs)) (hok : ∀ k, ok k → ok' k) (f : Kd.V d e W base ok' v xs → Kd.V d e w base ok' v xs := by intro h_; (with_reducible repeat (first | apply Kd.V_alloc | apply Kd.V_drewN | apply Kd.V_drew)); exact h_) : Kd.V d e w base ok' v xs := f (Kd.V_mono h.out hok)
theorem sD {c : Prop} [Decidable c] {α : Type} {a : Option α} {r : α} (h : (if c then a else none) = some r) : c ∧ a = some r := by
 by_cases e : c
 · rw [if_pos e] at h; exact ⟨e, h⟩
 · rw [if_neg e] at h; exact absurd h (by simp)
theorem sE {c : Prop} [Decidable c] {α : Type} {a : Option α} {r : α} (h : (if c then a else none) = some r) : decide c = true ∧ a = some r := ⟨decide_eq_true (sD h).1, (sD h).2⟩
theorem sM {c : Prop} [Decidable c] {α : Type} {a : Option α} {r : α} (h : (if c then a else none) = some r) : aC c ∧ a = some r := ⟨⟨(sD h).1⟩, (sD h).2⟩
theorem sB {c : Prop} [Decidable c] {α : Type} {a b : Option α} {r : α} (h : (if c then a else b) = some r) : c ∧ a = some r ∨ ¬ c ∧ b = some r := by
 by_cases e : c
 · rw [if_pos e] at h; exact .inl ⟨e, h⟩
 · rw [if_neg e] at h; exact .inr ⟨e, h⟩
theorem sC {c : Prop} [Decidable c] {α : Type} {a b : Option α} {r : α} (h : (if c then a else b) = some r) : ¬ c ∧ b = some r ∨ c ∧ a = some r := (sB h).symm
theorem sF {c : Prop} [Decidable c] {α : Type} {a b : Option α} {r : α} (h : (if c then a else b) = some r) : decide c = true ∧ a = some r ∨ decide c = false ∧ b = some r := (sB h).imp (fun h => ⟨decide_eq_true h.1, h.2⟩) (fun h => ⟨decide_eq_false h.1, h.2⟩)
theorem sG {c : Prop} [Decidable c] {α : Type} {a b : Option α} {r : α} (h : (if c then a else b) = some r) : decide c = false ∧ b = some r ∨ decide c = true ∧ a = some r := (sF h).symm
theorem sQ {β : Type} [BEq β] [LawfulBEq β] {x y : β} [Decidable (x = y)] {α : Type} {a b : Option α} {r : α} (h : (if x = y then a else b) = some r) : (x = y ∧ (x == y) = true ∧ (x != y) = false ∧ a = some r) ∨ (¬ x = y ∧ (x == y) = false ∧ (x != y) = true ∧ b = some r) := (sB h).imp (fun h => ⟨h.1, beq_iff_eq.mpr h.1, bne_eq_false_iff_eq.mpr h.1, h.2⟩) (fun h => ⟨h.1, beq_eq_false_iff_ne.mpr h.1, bne_iff_ne.mpr h.1, h.2⟩)
theorem sP {β : Type} [BEq β] [LawfulBEq β] {x y : β} [Decidable (x = y)] {α : Type} {a b : Option α} {r : α} (h : (if x = y then a else b) = some r) : (¬ x = y ∧ (x == y) = false ∧ (x != y) = true ∧ b = some r) ∨ (x = y ∧ (x == y) = true ∧ (x != y) = false ∧ a = some r) := (sQ h).symm
theorem sT {x : Bool} {α : Type} {a b : Option α} {r : α} (h : (if x = true then a else b) = some r) : x = true ∧ a = some r ∨ x = false ∧ b = some r := (sB h).imp id (fun h => ⟨Bool.eq_false_iff.mpr h.1, h.2⟩)
theorem sS {x : Bool} {α : Type} {a b : Option α} {r : α} (h : (if x = true then a else b) = some r) : x = false ∧ b = some r ∨ x = true ∧ a = some r := (sT h).symm
theorem sV {α β : Type} {o : Option α} {f : α → Option β} {b : β} (h : o.bind f = some b) : ∃ a, aC (o = some a) ∧ f a = some b := (zW_ h).imp fun _ h => ⟨⟨h.1⟩, h.2⟩
theorem sI {P : Prop} {i n : Int} (f : 0 ≤ i → i < n → P) (p : decide (0 ≤ i) = true := by first | (with_reducible assumption) | assumption) (q : decide (i < n) = true := by first | (with_reducible assumption) | assumption) : ((0 ≤ i) = True) ∧ ((i < n) = True) ∧ P := ⟨eq_true (zP p), eq_true (zP q), f (zP p) (zP q)⟩
theorem sW {g : Nat} {w W W' : World} (hg : g = W'.heap.size) (h : aC (Below w.heap.size w W)) (f : Below w.heap.size w W → Below w.heap.size w W' := by intro h_; repeat (first | (with_reducible first | exact h_ | apply yQ | apply yL | apply yP | refine yE ?_ (aC.out (by assumption))) | exact h_)) : aC (w.heap.size ≤ g) := ⟨by rw [hg]; exact aD (f h.out)⟩
theorem bE {P : Program} {ops : Array Oper} {Q : Exit → Act → World → Prop} {rest : List Oper} {o : Oper} {a : Act} {W : World} {N : Tmp} {cs : Array Value} {t : TypeId} (h : ∀ g, g = W.heap.size → ∀ w1, w1.heap[g]? = some (.cells cs t (0, 0)) → Below W.heap.size W w1 → wpList P ops Q rest (a.put o.dst (.pointer (some ⟨g, 0, none⟩))) w1) (hd : o.dst = some N := by rfl) (hg : o.guard = none := by rfl)
 (hr : (execOp a.eval o).run P W = .ok (.value (.pointer (some ⟨W.heap.size, 0, none⟩))) (W.alloc (.cells cs t (0, 0))) := by first | (go_simp; done) | (go_simp; rfl)) : wpList P ops Q (o :: rest) a W := box_event hg hd hr h
theorem kE {P : Prop} (h : P := by first | rfl | (simp <;> rfl) | (simp [*] <;> rfl)) : P := h
theorem kF {P : Prop} (h : P := by first | rfl | (simp; done) | (simp [*]; done)) : P := h
section
variable {P : Program} {ops : Array Oper} {Q : Exit → Act → World → Prop} {md : Region.Mode} {S : World → Prop} {ds : List Nat} {fuel : Nat} {l : Array Bool} {a a' : Act} {w : World} {T : Bool × List (List Nat × List Nat)} {oi : Oper}
theorem nZ (n : Tmp) {v : Value} (h : bX P md ops Q S ds fuel l a' w) (ha : a.put (some n) v = a' := by simp only [Act.put, zH, zI, zJ, i64_w, i32_w]; rfl) : bX P md ops Q S ds fuel l (a.put (some n) v) w := norm_ ha h
theorem qa (m i b : Nat) {n : Tmp} {v : Value} (h : bX P md ops Q S ds fuel (bz m b) a' w) (hT : aC (rtab md ops = T) := by assumption) (hi : ops[i]? = some oi := by rfl) (hN : oi.dst = some n := by rfl) (hc : anyT T l.toList (bz m b).toList i = true := by kernel_rfl) (hQ : ∀ c a w, Q (.panic c) (a.put oi.dst v) w → Q (.panic c) a w := by exact fun _ _ _ h => h)
 (hw : Region.wanted oi (yielded ops a.tmps) = true := by rfl) (hy : ∀ w, (execOp a.eval oi).run P w = .ok (.value v) w := by intro _; go_simp; with_reducible rfl) (ha : a.put (some n) v = a' := by simp only [Act.put, zH, zI, zJ, i64_w, i32_w]; rfl) : bX P md ops Q S ds (fuel + 1) l a w := qA i n (bz m b) hT h hi hN hc hQ hw hy ha
theorem qb (m i b : Nat) {n : Tmp} (h : bX P md ops Q S ds fuel (bz m b) a' w) (hT : aC (rtab md ops = T) := by assumption) (hi : ops[i]? = some oi := by rfl) (hN : oi.dst = some n := by rfl) (hc : anyT T l.toList (bz m b).toList i = true := by kernel_rfl) (hQ : ∀ c a w, Q (.panic c) (a.put oi.dst undef) w → Q (.panic c) a w := by exact fun _ _ _ h => h)
 (hw : Region.wanted oi (yielded ops a.tmps) = false := by rfl) (ha : a.put (some n) undef = a' := by simp only [Act.put, zH, zI, zJ, i64_w, i32_w]; rfl) : bX P md ops Q S ds (fuel + 1) l a w := qB i n (bz m b) hT h hi hN hc hQ hw ha
theorem qc (m i b : Nat) {n : Tmp} {v : Value} {B : List Nat} (hS : S w) (h : bX P md ops Q S ds fuel (bz m b) a' w) (hT : aC (rtab md ops = T) := by assumption) (hB : aC (waitsOk T.2 B = true) := by assumption) (hi : ops[i]? = some oi := by rfl) (hN : oi.dst = some n := by rfl) (hc : takeW T B ds l.toList (bz m b).toList i = true := by kernel_rfl)
 (hQ : ∀ c a w, Q (.panic c) (a.put oi.dst v) w → Q (.panic c) a w := by exact fun _ _ _ h => h) (hw : Region.wanted oi (yielded ops a.tmps) = true := by rfl) (hy : ∀ w, S w → (execOp a.eval oi).run P w = .ok (.value v) w := by intro _ s_; go_simp; with_reducible rfl) (ha : a.put (some n) v = a' := by simp only [Act.put, zH, zI, zJ, i64_w, i32_w]; rfl) : bX P md ops Q S ds (fuel + 1) l a w := qC i n (bz m b) hT hB hS h hi hN hc hQ hw hy ha
theorem qo (m i b : Nat) (N : Option Tmp) (h : ∀ K : Act → World → Prop, Shut (∀ a' w', S w' → (S w' → bX P md ops Q S ds fuel (bz m b) a' w') → K a' w') → if Region.wanted oi (yielded ops a.tmps) = true then Oper.wp P oi a w K Q else K (a.put N undef) w) (hT : aC (rtab md ops = T) := by assumption) (hi : ops[i]? = some oi := by rfl) (hN : oi.dst = N := by rfl)
 (hc : (readyT T.2 l.toList == [i] && l.toList.set i true == (bz m b).toList) = true := by kernel_rfl) (hd : i ∉ ds := by decide) : bX P md ops Q S ds (fuel + 1) l a w := one_ (bz m b) hi hN (one_of hT.out hc) hd h
theorem qd (h : Q .normal a w) (hT : aC (rtab md ops = T) := by assumption) (hc : (readyT T.2 l.toList == []) = true := by kernel_rfl) : bX P md ops Q S ds fuel l a w := done_ (done_of hT.out hc) h
theorem qg {N : Option Tmp} {K : Act → World → Prop} {f : FuncId} {fn : Func} {as' : Array Operand} {ts : Array TypeId} (hf : P.funcs[f]? = some fn) (args : Array Value) (h : Calls P f args w fun e w' => ∃ v, e = .returned v ∧ K (a.put N v) w') (hname : (fn.name == "runtime.NumGoroutine") = false := by kernel_rfl) (hb : fn.body.isSome = true := by rfl) (hw : Region.wanted oi (yielded ops a.tmps) = true := by rfl)
 (hN : oi.dst = N := by rfl) (hop : oi.op = .call { callee := .value (.func f), args := as', argTypes := ts } := by rfl) (hargs : as'.map a.eval = args := by (try simp only [zK, zL, zM]); first | done | rfl | (simp only [zN, zO]; rfl)) : if Region.wanted oi (yielded ops a.tmps) = true then Oper.wp P oi a w K Q else K (a.put N undef) w := goes_ hf hname hb args hw hN hop hargs h
end
theorem cf2_ {w : World} {g : Nat} {t : TypeId} {a0 a1 : Value} (h : w.heap[g]? = some (.cells #[a0, a1] t (0, 0))) : type_of% (And.intro (cz2 h) (fz2 h)) := And.intro (cz2 h) (fz2 h)
theorem cf6_ {w : World} {g : Nat} {t : TypeId} {a0 a1 a2 a3 a4 a5 : Value} (h : w.heap[g]? = some (.cells #[a0, a1, a2, a3, a4, a5] t (0, 0))) : type_of% (And.intro (cz6 h) (fz6 h)) := And.intro (cz6 h) (fz6 h)
structure Cm {α : Type} (d : Kd α) (w : World) (A : Option Addr) (c : Nat) (l : List α) : Prop where
 r : d.C w A l.length l
 h : l.length ≤ c
theorem Cm.b {α : Type} {d : Kd α} {w w1 w2 : World} {A : Option Addr} {c : Nat} {l : List α} (x : Cm d w A c l) (hb : aC (Below w.heap.size w w1)) (f : Below w.heap.size w w1 → Below w.heap.size w w2 := by intro h_; repeat (first | (with_reducible first | exact h_ | apply yQ | apply yL | apply yP | refine yE ?_ (aC.out (by assumption))) | exact h_)) : Cm d w2 A c l := ⟨yY x.r (f hb.out), x.h⟩
theorem cB {α : Type} {d : Kd α} {w w1 w2 : World} {A : Option Addr} {c : Nat} {l : List α} (x : aC (d.C w A l.length l)) (y : aC (l.length ≤ c)) (hb : aC (Below w.heap.size w w1)) (f : Below w.heap.size w w1 → Below w.heap.size w w2 := by intro h_; repeat (first | (with_reducible first | exact h_ | apply yQ | apply yL | apply yP | refine yE ?_ (aC.out (by assumption))) | exact h_)) : Cm d w2 A c l := ⟨yY x.out (f hb.out), y.out⟩
theorem kC {w w1 w2 : World} {q : Addr} {u : Value} (hb : aC (Below w.heap.size w w1)) (h : w.cell? q = some u) (f : w1.cell? q = some u → w2.cell? q = some u := by exact fun h_ => h_) : w2.cell? q = some u := f ((hb.out.cell (World.block_lt_of_cell? w _ h)).trans h)
theorem kD {w w1 : World} {q : Addr} {u : Value} (hb : aC (Below w.heap.size w w1)) (h : w.cell? q = some u) : w1.cell? q = some u := (hb.out.cell (World.block_lt_of_cell? w _ h)).trans h
theorem yS_ {α : Type} {d : Kd α} {e base g j : Nat} {w : World} {ok : Nat → Prop} {v u : Value} {xs : List α} (h : d.R e w base (fun k => ok k ∧ k ≠ g) v xs) : d.R e (w.setCell ⟨g, j, none⟩ u) base (fun k => ok k ∧ k ≠ g) v xs := Kd.R_far h (fun _ hk => hk.2) u
theorem ca2_ {w : World} {g : Nat} {t : TypeId} {a0 a1 : Value} {P : Prop} (h : w.heap[g]? = some (.cells #[a0, a1] t (0, 0))) (p : P) : w.cell? ⟨g, 0, none⟩ = some a0 ∧ w.cell? ⟨g, 1, none⟩ = some a1 ∧ P := ⟨(yG h 0).trans rfl, (yG h 1).trans rfl, p⟩
theorem ca6_ {w : World} {g : Nat} {t : TypeId} {a0 a1 a2 a3 a4 a5 : Value} {P : Prop} (h : w.heap[g]? = some (.cells #[a0, a1, a2, a3, a4, a5] t (0, 0))) (p : P) : w.cell? ⟨g, 0, none⟩ = some a0 ∧ w.cell? ⟨g, 1, none⟩ = some a1 ∧ w.cell? ⟨g, 2, none⟩ = some a2 ∧ w.cell? ⟨g, 3, none⟩ = some a3 ∧ w.cell? ⟨g, 4, none⟩ = some a4 ∧ w.cell? ⟨g, 5, none⟩ = some a5 ∧ P := ⟨(yG h 0).trans rfl, (yG h 1).trans rfl, (yG h 2).trans rfl, (yG h 3).trans rfl, (yG h 4).trans rfl, (yG h 5).trans rfl, p⟩
theorem bA2_ {w : World} {g : Nat} {t : TypeId} {a0 a1 v0 v1 : Value} (h : w.heap[g]? = some (.cells #[a0, a1] t (0, 0))) : ((w.setCell ⟨g, 0, none⟩ v0).setCell ⟨g, 1, none⟩ v1).heap[g]? = some (.cells #[v0, v1] t (0, 0)) := (blk_put (cs := #[v0, a1]) (blk_put (cs := #[a0, a1]) h 0 v0 rfl) 1 v1 rfl)
theorem bA6_ {w : World} {g : Nat} {t : TypeId} {a0 a1 a2 a3 a4 a5 v0 v1 v2 v3 v4 v5 : Value} (h : w.heap[g]? = some (.cells #[a0, a1, a2, a3, a4, a5] t (0, 0))) : ((((((w.setCell ⟨g, 0, none⟩ v0).setCell ⟨g, 1, none⟩ v1).setCell ⟨g, 2, none⟩ v2).setCell ⟨g, 3, none⟩ v3).setCell ⟨g, 4, none⟩ v4).setCell ⟨g, 5, none⟩ v5).heap[g]? = some (.cells #[v0, v1, v2, v3, v4, v5] t (0, 0)) := (blk_put (cs := #[v0, v1, v2, v3, v4, a5]) (blk_put (cs := #[v0, v1, v2, v3, a4, a5]) (blk_put (cs := #[v0, v1, v2, a3, a4, a5]) (blk_put (cs := #[v0, v1, a2, a3, a4, a5]) (blk_put (cs := #[v0, a1, a2, a3, a4, a5]) (blk_put (cs := #[a0, a1, a2, a3, a4, a5]) h 0 v0 rfl) 1 v1 rfl) 2 v2 rfl) 3 v3 rfl) 4 v4 rfl) 5 v5 rfl)
theorem sJ {α : Type} {a b : α} (h : some a = some b) : a = b := Option.some.inj h
theorem bF {P : Program} {ops : Array Oper} {Q : Exit → Act → World → Prop} {rest : List Oper} {o : Oper} {a : Act} {w W W1 : World} {N : Tmp} {cs : Array Value} {t : TypeId} (hb : aC (Below w.heap.size w W1)) (h : ∀ g w1, aC (w1.heap[g]? = some (.cells cs t (0, 0))) → aC (w.heap.size ≤ g) → aC (Below w.heap.size w w1) → wpList P ops Q rest (a.put o.dst (.pointer (some ⟨g, 0, none⟩))) w1) (hd : o.dst = some N := by rfl) (hg : o.guard = none := by rfl)
 (hr : (execOp a.eval o).run P W = .ok (.value (.pointer (some ⟨W.heap.size, 0, none⟩))) (W.alloc (.cells cs t (0, 0))) := by first | (go_simp; done) | (go_simp; rfl)) (f : Below w.heap.size w W1 → Below w.heap.size w W := by intro h_; repeat (first | (with_reducible first | exact h_ | apply yQ | apply yL | apply yP | refine yE ?_ (aC.out (by assumption))) | exact h_)) : wpList P ops Q (o :: rest) a W :=
 bE (fun g e w1 hx hb2 => h g w1 ⟨hx⟩ ⟨by rw [e]; exact aD (f hb.out)⟩ ⟨zC (f hb.out) hb2⟩) hd hg hr
theorem dm {P : Program} {f : FuncId} {as' : Array Value} {w : World} {v : Value} {K : Value → World → Prop} (h : Calls P f as' w fun e w' => e = .returned v ∧ aT w w') (k : ∀ n, K v (w.drewN n)) : Calls P f as' w fun e w' => ∃ v, e = .returned v ∧ K v w' := h.mono (by rintro e w' ⟨rfl, ⟨n, rfl⟩⟩; exact ⟨_, rfl, k n⟩)
theorem zY {W w w1 : World} {g : Nat} {o : Obj} (h : aC (W.heap[g]? = some o)) (hb : Below w.heap.size w w1) (f : W.heap[g]? = some o → w.heap[g]? = some o := by intro h_; (with_reducible repeat (first | refine yM ?_ _ | refine yO ?_ | refine yN ?_ _)); exact h_) : aC (w1.heap[g]? = some o) := ⟨zB (f h.out) hb⟩
theorem zX {w W1 W w1 : World} (h : aC (Below w.heap.size w W1)) (hb : Below W.heap.size W w1) (f : Below w.heap.size w W1 → Below w.heap.size w W := by intro h_; repeat (first | (with_reducible first | exact h_ | apply yQ | apply yL | apply yP | refine yE ?_ (aC.out (by assumption))) | exact h_)) : aC (Below w.heap.size w w1) := ⟨zC (f h.out) hb⟩
abbrev cl (w : World) (g i : Nat) (v : Value) : Prop := w.cell? ⟨g, i, none⟩ = some v
theorem s0 {P : Program} {ops : Array Oper} {Q : Exit → Act → World → Prop} {id : Nat} {a : Act} {w : World} {T : Bool × List (List Nat × List Nat)} {B : List Nat} {m : Nat} {S : World → Prop} (hT : rtab .any ops = T) (hB : waitsOk T.2 B = true) (hS : S w.drew) (h : S w.drew → aC (rtab .any ops = T) → aC (waitsOk T.2 B = true) → bX P .any ops Q S [] m (bz m 0) a w.drew)
 (hm : P.follows .mixedOrders = true := by kernel_rfl) (hn : ops.size = m := by rfl) (hl : Array.replicate m false = bz m 0 := by rfl) : (Code.region id ops true).wp P Q a w := start_ (bz m 0) hm hn hl hS (fun x => with_tabW hT hB (fun y z => h x y z))
theorem gC {P : Program} {ops : Array Oper} {Q : Exit → Act → World → Prop} {rest : List Oper} {o : Oper} {a : Act} {w : World} (f : FuncId) {as' : Array Operand} {ts : Array TypeId} (h : wpList P ops Q (o :: rest) a w) (_ho : o.op = .call { callee := .value (.func f), args := as', argTypes := ts } := by with_reducible rfl) : wpList P ops Q (o :: rest) a w := h
theorem gD {P : Program} {ops : Array Oper} {Q : Exit → Act → World → Prop} {rest : List Oper} {o : Oper} {a : Act} {w : World} (N : Tmp) (h : wpList P ops Q (o :: rest) a w) (_hN : o.dst = some N := by with_reducible rfl) : wpList P ops Q (o :: rest) a w := h
theorem dn {P : Program} {f : FuncId} {as' : Array Value} {w : World} {v : Value} {B : World → Prop} {K : Value → World → Prop} (h : Calls P f as' w fun e w' => e = .returned v ∧ B w') (k : ∀ w', B w' → K v w') : Calls P f as' w fun e w' => ∃ v, e = .returned v ∧ K v w' := h.mono (by rintro e w' ⟨rfl, h⟩; exact ⟨_, rfl, k _ h⟩)
theorem dv {P : Program} {f : FuncId} {as' : Array Value} {w : World} {A B : Value → World → Prop} {F : Value → Value} {K : Value → World → Prop} (h : Calls P f as' w fun e w' => ∃ v, e = .returned (F v) ∧ A v w' ∧ B v w') (k : ∀ v w', A v w' → B v w' → K (F v) w') : Calls P f as' w fun e w' => ∃ v, e = .returned v ∧ K v w' := h.mono (by rintro e w' ⟨v, rfl, h1, h2⟩; exact ⟨_, rfl, k _ _ h1 h2⟩)
theorem dw {P : Program} {f : FuncId} {as' : Array Value} {w : World} {v : Value} {A B C : World → Prop} {K : Value → World → Prop} (h : Calls P f as' w fun e w' => e = .returned v ∧ A w' ∧ B w' ∧ C w') (k : ∀ w', A w' → B w' → C w' → K v w') : Calls P f as' w fun e w' => ∃ v, e = .returned v ∧ K v w' := h.mono (by rintro e w' ⟨rfl, h1, h2, h3⟩; exact ⟨_, rfl, k _ h1 h2 h3⟩)
end Go.Proofs.Ytkkdkeogplgkfaa.PFnSelectedBoxes
