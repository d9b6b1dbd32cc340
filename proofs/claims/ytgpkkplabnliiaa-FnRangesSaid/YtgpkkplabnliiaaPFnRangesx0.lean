/- Each Go function here comes to what the plain function of its name says, where that says something. Made by a program of this session, over the print. -/
import Derived.Test.YtgpkkplabnliiaaPFnRangesw1
import Derived.Test.YtgpkkplabnliiaaProg
import Derived.Lib.SliceRun
namespace Go.Proofs.Ytgpkkplabnliiaa.PFnRanges
open Go.RowKit Go.Proofs.YtgpkkplabnliiaaW.PrintWords Go.Proofs.YtgpkkplabnliiaaW.PrintLast Go.Proofs.YtgpkkplabnliiaaW.PrintMore
attribute [local go_sem] max2_int min2_int max_two min_two max_three min_three max_four min_four   -- for this text's walks alone
set_option linter.unusedVariables false
set_option linter.unusedSimpArgs false



def errW : Option Int → Value
 | none => .nilIface
 | some c => .iface 0 (.int .i64 c)
theorem errW_none : errW none = .nilIface := rfl
theorem errW_some (c : Int) : errW (some c) = .iface 0 (.int .i64 c) := rfl

theorem info2 : (Try.prog.info? 2).map (fun i => (i.zero, i.size, i.bytes)) = some (some (.int .i64 0), 1, 8) := by kernel_rfl
theorem info23 : (Try.prog.info? 23).map (fun i => (i.zero, i.size, i.bytes)) = some (some (.slice none 0 0), 1, 24) := by kernel_rfl
-- the values' own types
def rd_L2 (xs : List (List Int)) (i : Int) : (List Int) := xs.getD i.toNat ([] : List Int)
theorem at_L2 {w : World} {A : Option Addr} {n : Nat} {xs : List (List Int)} (h : Kd.C (Kd.slice 2 (Kd.int .i64)) w A n xs) (i : Int) (h0 : 0 ≤ i) (h1 : i < n) : ∃ ad A0 c0, A = some ad ∧ w.cell? (ad.add i.toNat) = some (.slice A0 (rd_L2 xs i).length c0) ∧ (rd_L2 xs i).length ≤ c0 ∧ (Kd.int .i64).C w A0 (rd_L2 xs i).length (rd_L2 xs i) := by
 obtain ⟨ad, c, e, _, hK, hc0⟩ := Kd.C_get h ([] : List Int) i h0 h1
 have hc : ∀ j u, c[j]? = some u → w.cell? (ad.add (i.toNat * 1 + j)) = some u := hc0
 obtain ⟨A0, c0, rfl, l0, g0⟩ := hK
 exact ⟨ad, A0, c0, e, by have hq := hc 0 _ rfl; rwa [Nat.mul_one, Nat.add_zero] at hq, l0, g0⟩

/-! #### struct type 97 -/
structure S97 where
 f0 : (List Int)
def z97 : S97 := ⟨([] : List Int)⟩
def k97 : Kd S97 := Kd.iso (Kd.slice 2 (Kd.int .i64)) (fun x : S97 => x.f0)
theorem k97_heap : Kd.Heap k97 := Kd.heap_iso _ (Kd.heap_slice 2 (Kd.heap_int .i64))
theorem k97_open {w : World} {x : S97} {cs : List Value} (h : k97.K w x cs) : ∃ A0 c0, cs = [.slice A0 x.f0.length c0] ∧ x.f0.length ≤ c0 ∧ (Kd.int .i64).C w A0 x.f0.length x.f0 := by
 obtain ⟨A0, c0, rfl, l0, g0⟩ := h
 exact ⟨A0, c0, rfl, l0, g0⟩
theorem k97_openM {w : World} {base : Nat} {ok : Nat → Prop} {x : S97} {cs : List Value} (h : k97.M w base ok x cs) : ∃ v0, cs = [v0] ∧ (Kd.int .i64).R 2 w base ok v0 x.f0 := by
 obtain ⟨v0, rfl, g0⟩ := h
 exact ⟨v0, rfl, g0⟩
theorem k97_mk (w : World) (x : S97) {A0 : Option Addr} {c0 : Nat} (l0 : x.f0.length ≤ c0) (g0 : (Kd.int .i64).C w A0 x.f0.length x.f0) : k97.K w x [.slice A0 x.f0.length c0] := ⟨A0, c0, rfl, l0, g0⟩
theorem k97_mkM (w : World) (base : Nat) (ok : Nat → Prop) (x : S97) {v0 : Value} (g0 : (Kd.int .i64).R 2 w base ok v0 x.f0) : k97.M w base ok x [v0] := ⟨v0, rfl, g0⟩
theorem k97_openF {W : World} {ok : Nat → Prop} {x : S97} {cs : List Value} (h : Kd.FK k97 W ok x cs) : ∃ A0 c0, cs = [.slice A0 x.f0.length c0] ∧ x.f0.length ≤ c0 ∧ Kd.F (Kd.int .i64) W ok A0 x.f0.length x.f0 := by
 obtain ⟨A0, c0, rfl, l0, _⟩ := k97_open (Kd.FK_now h)
 exact ⟨A0, c0, rfl, l0, (fun W' hW => by obtain ⟨A0_, c0_, he, l0_, g0_⟩ := k97_open (h W' hW); injection (Option.some.inj (show some (Value.slice A0 x.f0.length c0) = some (Value.slice A0_ x.f0.length c0_) from congrArg (fun l => l[0]?) he)) with ha_ _ _; rw [ha_]; exact g0_)⟩
theorem k97_mkF (W : World) (ok : Nat → Prop) (x : S97) {A0 : Option Addr} {c0 : Nat} (l0 : x.f0.length ≤ c0) (g0 : Kd.F (Kd.int .i64) W ok A0 x.f0.length x.f0) : Kd.FK k97 W ok x [.slice A0 x.f0.length c0] := fun W2 hW => k97_mk W2 x l0 (g0 W2 hW)
def rd_T97 (xs : List S97) (i : Int) : S97 := xs.getD i.toNat z97
theorem at_T97 {w : World} {A : Option Addr} {n : Nat} {xs : List S97} (h : Kd.C k97 w A n xs) (i : Int) (h0 : 0 ≤ i) (h1 : i < n) : ∃ ad A0 c0, A = some ad ∧ w.cell? (ad.add i.toNat) = some (.slice A0 (rd_T97 xs i).f0.length c0) ∧ (rd_T97 xs i).f0.length ≤ c0 ∧ (Kd.int .i64).C w A0 (rd_T97 xs i).f0.length (rd_T97 xs i).f0 := by
 obtain ⟨ad, c, e, _, hK, hc0⟩ := Kd.C_get h z97 i h0 h1
 have hc : ∀ j u, c[j]? = some u → w.cell? (ad.add (i.toNat * 1 + j)) = some u := hc0
 obtain ⟨A0, c0, rfl, l0, g0⟩ := k97_open hK
 exact ⟨ad, A0, c0, e, by have hq := hc 0 _ rfl; rwa [Nat.mul_one, Nat.add_zero] at hq, l0, g0⟩

def rd_L4 (xs : List (List Int)) (i : Int) : (List Int) := xs.getD i.toNat ([] : List Int)
theorem at_L4 {w : World} {A : Option Addr} {n : Nat} {xs : List (List Int)} (h : Kd.C (Kd.slice 5 (Kd.int .u8)) w A n xs) (i : Int) (h0 : 0 ≤ i) (h1 : i < n) : ∃ ad A0 c0, A = some ad ∧ w.cell? (ad.add i.toNat) = some (.slice A0 (rd_L4 xs i).length c0) ∧ (rd_L4 xs i).length ≤ c0 ∧ (Kd.int .u8).C w A0 (rd_L4 xs i).length (rd_L4 xs i) := by
 obtain ⟨ad, c, e, _, hK, hc0⟩ := Kd.C_get h ([] : List Int) i h0 h1
 have hc : ∀ j u, c[j]? = some u → w.cell? (ad.add (i.toNat * 1 + j)) = some u := hc0
 obtain ⟨A0, c0, rfl, l0, g0⟩ := hK
 exact ⟨ad, A0, c0, e, by have hq := hc 0 _ rfl; rwa [Nat.mul_one, Nat.add_zero] at hq, l0, g0⟩

theorem yA : type_of% @Kd.R_alloc := @Kd.R_alloc
theorem yB : type_of% @Kd.R_drewN := @Kd.R_drewN
theorem yC : type_of% @Kd.R_drew := @Kd.R_drew
theorem yD : type_of% @Aside0.mk := @Aside0.mk
theorem yE : type_of% @below_set := @below_set
theorem yF : type_of% @Kd.R_far := @Kd.R_far
theorem yG : type_of% @blk_cell := @blk_cell
theorem yH : type_of% @Kd.R_base := @Kd.R_base
theorem yI : type_of% @Kd.R_told := @Kd.R_told
theorem yJ : type_of% @Kd.R_new' := @Kd.R_new'
theorem yK : type_of% @Kd.R_lt := @Kd.R_lt
theorem yL : type_of% @pw_below_drewN := @pw_below_drewN
theorem yM : type_of% @blk_drewN := @blk_drewN
theorem yN : type_of% @blk_alloc := @blk_alloc
theorem yO : type_of% @blk_drew := @blk_drew
theorem yP : type_of% @below_drew1 := @below_drew1
theorem yQ : type_of% @below_alloc := @below_alloc
theorem yR : type_of% @blk_frozen := @blk_frozen
theorem yS : type_of% @Kd.S_alloc := @Kd.S_alloc
theorem yT : type_of% @Kd.S_drewN := @Kd.S_drewN
theorem yU : type_of% @Kd.S_drew := @Kd.S_drew
theorem yV : type_of% @Kd.C_alloc := @Kd.C_alloc
theorem yW : type_of% @Kd.C_drewN := @Kd.C_drewN
theorem yX : type_of% @Kd.C_drew := @Kd.C_drew
theorem yY : type_of% @Kd.C_below := @Kd.C_below
theorem yZ : type_of% @Kd.R_lower := @Kd.R_lower
theorem zA : type_of% @Kd.R_reads' := @Kd.R_reads'
theorem zB : type_of% @blk_below := @blk_below
theorem zC : type_of% @below_step := @below_step
theorem zD : type_of% @Kd.S_new' := @Kd.S_new'
theorem zE : type_of% @Kd.R_below := @Kd.R_below
theorem zF : type_of% @Kd.R_mono := @Kd.R_mono
theorem zG : type_of% @Kd.S_lower := @Kd.S_lower
theorem zH : type_of% @List.setIfInBounds_toArray := @List.setIfInBounds_toArray
theorem zI : type_of% @List.set_cons_zero := @List.set_cons_zero
theorem zJ : type_of% @List.set_cons_succ := @List.set_cons_succ
theorem zK : type_of% @List.map_toArray := @List.map_toArray
theorem zL : type_of% @List.map_cons := @List.map_cons
theorem zM : type_of% @List.map_nil := @List.map_nil
theorem zN : type_of% @List.length_drop := @List.length_drop
theorem zO : type_of% @List.length_take := @List.length_take
theorem zP : type_of% @of_decide_eq_true := @of_decide_eq_true
theorem zQ : type_of% @World.block_lt_of_cell? := @World.block_lt_of_cell?
theorem zR : type_of% @decide_eq_true := @decide_eq_true
theorem zS : type_of% @decide_eq_false := @decide_eq_false
theorem pA {P : Program} {ops : Array Oper} {Q : Exit → Act → World → Prop} {md : Region.Mode} {S : World → Prop} {ds : List Nat} (i : Nat) (n : Tmp) {oi : Oper} {v : Value} {fuel : Nat} {l : Array Bool} {a : Act} {w : World} (l' : Array Bool) (hi : ops[i]? = some oi) (hN : oi.dst = some n) (hc : anyB md ops l l' i = true)
 (hQ : ∀ c a w, Q (.panic c) (a.put oi.dst v) w → Q (.panic c) a w) (hw : Region.wanted oi (yielded ops a.tmps) = true) (hy : ∀ w, (execOp a.eval oi).run P w = .ok (.value v) w) {a' : Act} (ha : a.put (some n) v = a')
 (h : wpAnyLast P md ops Q S ds fuel l' a' w) : wpAnyLast P md ops Q S ds (fuel + 1) l a w := pure_ l' hi hN hc hQ (Or.inl ⟨hw, hy⟩) ha h
theorem pB {P : Program} {ops : Array Oper} {Q : Exit → Act → World → Prop} {md : Region.Mode} {S : World → Prop} {ds : List Nat} (i : Nat) (n : Tmp) {oi : Oper} {fuel : Nat} {l : Array Bool} {a : Act} {w : World} (l' : Array Bool) (hi : ops[i]? = some oi) (hN : oi.dst = some n) (hc : anyB md ops l l' i = true)
 (hQ : ∀ c a w, Q (.panic c) (a.put oi.dst undef) w → Q (.panic c) a w) (hw : Region.wanted oi (yielded ops a.tmps) = false) {a' : Act} (ha : a.put (some n) undef = a')
 (h : wpAnyLast P md ops Q S ds fuel l' a' w) : wpAnyLast P md ops Q S ds (fuel + 1) l a w := pure_ l' hi hN hc hQ (Or.inr ⟨hw, rfl⟩) ha h
theorem pC {P : Program} {ops : Array Oper} {Q : Exit → Act → World → Prop} {md : Region.Mode} {S : World → Prop} {ds : List Nat} (i : Nat) (n : Tmp) {oi : Oper} {v : Value} {fuel : Nat} {l : Array Bool} {a : Act} {w : World} (l' : Array Bool) (hi : ops[i]? = some oi) (hN : oi.dst = some n) (hc : takeB md ops ds l l' i = true)
 (hQ : ∀ c a w, Q (.panic c) (a.put oi.dst v) w → Q (.panic c) a w) (hw : Region.wanted oi (yielded ops a.tmps) = true) (hS : S w) (hy : ∀ w, S w → (execOp a.eval oi).run P w = .ok (.value v) w) {a' : Act} (ha : a.put (some n) v = a')
 (h : wpAnyLast P md ops Q S ds fuel l' a' w) : wpAnyLast P md ops Q S ds (fuel + 1) l a w := take_ l' hi hN hc hQ (Or.inl ⟨hw, hy⟩) hS ha h
theorem pD {md : Region.Mode} {ops : Array Oper} {T : Bool × List (List Nat × List Nat)} {l l' : Array Bool} {i : Nat} (hT : Aside0 (rtab md ops = T)) (h : anyT T l.toList l'.toList i = true) : anyB md ops l l' i = true := any_of hT.out h
theorem zW_ {α β : Type} {o : Option α} {f : α → Option β} {b : β} (h : o.bind f = some b) : ∃ a, o = some a ∧ f a = some b := Option.bind_eq_some_iff.mp h
def bl : Nat → Nat → List Bool
 | 0, _ => []
 | n + 1, b => Nat.beq (b % 2) 1 :: bl n (b / 2)
def bz (n b : Nat) : Array Bool := ⟨bl n b⟩
theorem kM {A B : Prop} (h : Aside0 A) (f : A → B := by intro h_; (with_reducible repeat (first | refine yM ?_ _ | refine yO ?_ | refine yN ?_ _)); exact h_) : B := f h.out
theorem kA {A B : Prop} (h : Aside0 A) (f : A → B := by intro h_; (with_reducible repeat (first | apply yA | apply yB | apply yC)); exact h_) : B := f h.out
theorem kB {A B : Prop} (h : Aside0 A) (f : A → B := by intro h_; repeat (first | (with_reducible first | exact h_ | apply yQ | apply yL | apply yP | refine yE ?_ (Aside0.out (by assumption))) | exact h_)) : B := f h.out
theorem kV {A B : Prop} (h : A) (f : A → B := by intro h_; repeat (first | exact h_ | (with_reducible first | refine yV ?_ _ | refine yW ?_ _ | refine yX ?_))) : B := f h
theorem qA {P : Program} {ops : Array Oper} {Q : Exit → Act → World → Prop} {md : Region.Mode} {S : World → Prop} {ds : List Nat} (i : Nat) (n : Tmp) {oi : Oper} {v : Value} {fuel : Nat} {l : Array Bool} {a : Act} {w : World} (l' : Array Bool) {a' : Act} {T : Bool × List (List Nat × List Nat)} (hT : Aside0 (rtab md ops = T))
 (h : wpAnyLast P md ops Q S ds fuel l' a' w) (hi : ops[i]? = some oi := by rfl) (hN : oi.dst = some n := by rfl) (hc : anyT T l.toList l'.toList i = true := by kernel_rfl) (hQ : ∀ c a w, Q (.panic c) (a.put oi.dst v) w → Q (.panic c) a w := by exact fun _ _ _ h => h)
 (hw : Region.wanted oi (yielded ops a.tmps) = true := by rfl) (hy : ∀ w, (execOp a.eval oi).run P w = .ok (.value v) w := by intro _; go_simp; with_reducible rfl) (ha : a.put (some n) v = a' := by simp only [Act.put, zH, zI, zJ, i64_w, i32_w]; rfl) : wpAnyLast P md ops Q S ds (fuel + 1) l a w := pure_ l' hi hN (any_of hT.out hc) hQ (Or.inl ⟨hw, hy⟩) ha h
theorem qB {P : Program} {ops : Array Oper} {Q : Exit → Act → World → Prop} {md : Region.Mode} {S : World → Prop} {ds : List Nat} (i : Nat) (n : Tmp) {oi : Oper} {fuel : Nat} {l : Array Bool} {a : Act} {w : World} (l' : Array Bool) {a' : Act} {T : Bool × List (List Nat × List Nat)} (hT : Aside0 (rtab md ops = T))
 (h : wpAnyLast P md ops Q S ds fuel l' a' w) (hi : ops[i]? = some oi := by rfl) (hN : oi.dst = some n := by rfl) (hc : anyT T l.toList l'.toList i = true := by kernel_rfl) (hQ : ∀ c a w, Q (.panic c) (a.put oi.dst undef) w → Q (.panic c) a w := by exact fun _ _ _ h => h)
 (hw : Region.wanted oi (yielded ops a.tmps) = false := by rfl) (ha : a.put (some n) undef = a' := by simp only [Act.put, zH, zI, zJ, i64_w, i32_w]; rfl) : wpAnyLast P md ops Q S ds (fuel + 1) l a w := pure_ l' hi hN (any_of hT.out hc) hQ (Or.inr ⟨hw, rfl⟩) ha h
theorem qC {P : Program} {ops : Array Oper} {Q : Exit → Act → World → Prop} {md : Region.Mode} {S : World → Prop} {ds : List Nat} (i : Nat) (n : Tmp) {oi : Oper} {v : Value} {fuel : Nat} {l : Array Bool} {a : Act} {w : World} (l' : Array Bool) {a' : Act} {T : Bool × List (List Nat × List Nat)} {B : List Nat} (hT : Aside0 (rtab md ops = T)) (hB : Aside0 (waitsOk T.2 B = true)) (hS : S w)
 (h : wpAnyLast P md ops Q S ds fuel l' a' w) (hi : ops[i]? = some oi := by rfl) (hN : oi.dst = some n := by rfl) (hc : takeW T B ds l.toList l'.toList i = true := by kernel_rfl)
 (hQ : ∀ c a w, Q (.panic c) (a.put oi.dst v) w → Q (.panic c) a w := by exact fun _ _ _ h => h) (hw : Region.wanted oi (yielded ops a.tmps) = true := by rfl) (hy : ∀ w, S w → (execOp a.eval oi).run P w = .ok (.value v) w) (ha : a.put (some n) v = a' := by simp only [Act.put, zH, zI, zJ, i64_w, i32_w]; rfl) : wpAnyLast P md ops Q S ds (fuel + 1) l a w := take_ l' hi hN (take_ofW hT.out hB.out hc) hQ (Or.inl ⟨hw, hy⟩) hS ha h
theorem cz2 {w : World} {g : Nat} {t : TypeId} {a0 a1 : Value} (h : w.heap[g]? = some (.cells #[a0, a1] t (0, 0))) : w.cell? ⟨g, 0, none⟩ = some a0 ∧ w.cell? ⟨g, 1, none⟩ = some a1 := ⟨(yG h 0).trans rfl, (yG h 1).trans rfl⟩
theorem cz6 {w : World} {g : Nat} {t : TypeId} {a0 a1 a2 a3 a4 a5 : Value} (h : w.heap[g]? = some (.cells #[a0, a1, a2, a3, a4, a5] t (0, 0))) : w.cell? ⟨g, 0, none⟩ = some a0 ∧ w.cell? ⟨g, 1, none⟩ = some a1 ∧ w.cell? ⟨g, 2, none⟩ = some a2 ∧ w.cell? ⟨g, 3, none⟩ = some a3 ∧ w.cell? ⟨g, 4, none⟩ = some a4 ∧ w.cell? ⟨g, 5, none⟩ = some a5 := ⟨(yG h 0).trans rfl, (yG h 1).trans rfl, (yG h 2).trans rfl, (yG h 3).trans rfl, (yG h 4).trans rfl, (yG h 5).trans rfl⟩
theorem fz2 {w : World} {g : Nat} {t : TypeId} {cs : Array Value} (h : w.heap[g]? = some (.cells cs t (0, 0))) : w.frozen? ⟨g, 0, none⟩ = false ∧ w.frozen? ⟨g, 1, none⟩ = false := ⟨yR h 0, yR h 1⟩
theorem fz6 {w : World} {g : Nat} {t : TypeId} {cs : Array Value} (h : w.heap[g]? = some (.cells cs t (0, 0))) : w.frozen? ⟨g, 0, none⟩ = false ∧ w.frozen? ⟨g, 1, none⟩ = false ∧ w.frozen? ⟨g, 2, none⟩ = false ∧ w.frozen? ⟨g, 3, none⟩ = false ∧ w.frozen? ⟨g, 4, none⟩ = false ∧ w.frozen? ⟨g, 5, none⟩ = false := ⟨yR h 0, yR h 1, yR h 2, yR h 3, yR h 4, yR h 5⟩
theorem kR0 {B : Nat} {w W W' : World} (h : Aside0 (Below B w W)) (f : Below B w W → Below B w W' := by intro h_; repeat (first | (with_reducible first | exact h_ | apply yQ | apply yL | apply yP) | exact h_)) : Below B w W' := f h.out
theorem kR1 {B : Nat} {w W W' : World} (h : Aside0 (Below B w W)) (f : Below B w W → Below B w W' := by intro h_; repeat (first | (with_reducible first | exact h_ | apply yQ | apply yL | apply yP | refine yE ?_ (Aside0.out (by assumption))) | exact h_)) : Below B w W' := f h.out
theorem kR2 {A B : Prop} (h : Aside0 A) (f : A → B := by intro h_; repeat (first | (with_reducible first | exact h_ | apply IsS92.alloc | apply IsS92.drewN | apply IsS92.drew | apply IsS92.set_1 | apply IsS92.set_2) | exact h_)) : B := f h.out
theorem kR3 {B : Nat} {w W W' : World} (h : Aside0 (Below B w W)) (f : Below B w W → Below B w W' := by intro h_; repeat (first | (with_reducible first | exact h_ | apply yQ | apply yL | apply yP | refine yE ?_ (IsS92.ge (Aside0.out (by assumption)))) | exact h_)) : Below B w W' := f h.out
theorem kR4 {w W W' : World} {g : Nat} {row : Option Nat} (h : Aside0 (KeepBut w W g row)) (f : KeepBut w W g row → KeepBut w W' g row := by intro h_; repeat (first | (with_reducible first | exact h_ | apply KeepBut.set_ | apply keep_drewN | apply keep_drew | apply keep_alloc) | exact h_)) : KeepBut w W' g row := f h.out
end Go.Proofs.Ytgpkkplabnliiaa.PFnRanges
