/- Each Go function here comes to what the plain function of its name says, where that says something. Made by a program of this session, over the print. -/
import Derived.Test.YtlfjepcmlgfogaaPFnExactCutBoxw1
import Derived.Test.YtlfjepcmlgfogaaProg
namespace Go.Proofs.Ytlfjepcmlgfogaa.PFnExactCutBox
open Go.RowKit Go.Proofs.YtlfjepcmlgfogaaW.PrintWords Go.Proofs.YtlfjepcmlgfogaaW.PrintLast Go.Proofs.YtlfjepcmlgfogaaW.PrintMore
attribute [local go_sem] max2_int min2_int max_two min_two max_three min_three max_four min_four   -- for this text's walks alone
set_option linter.unusedVariables false
set_option linter.unusedSimpArgs false



def errW : Option Int → Value
  | none => .nilIface
  | some c => .iface 0 (.int .i64 c)
theorem errW_none : errW none = .nilIface := rfl
theorem errW_some (c : Int) : errW (some c) = .iface 0 (.int .i64 c) := rfl

theorem info2 : (Try.prog.info? 2).map (fun i => (i.zero, i.size, i.bytes)) = some (some (.int .i64 0), 1, 8) := by kernel_rfl
-- the values' own types
def rd_L1 (xs : List (List Int)) (i : Int) : (List Int) := xs.getD i.toNat ([] : List Int)
theorem at_L1 {w : World} {A : Option Addr} {n : Nat} {xs : List (List Int)} (h : Kd.C (Kd.slice 2 (Kd.int .i64)) w A n xs) (i : Int) (h0 : 0 ≤ i) (h1 : i < n) : ∃ ad A0 c0, A = some ad ∧ w.cell? (ad.add i.toNat) = some (.slice A0 (rd_L1 xs i).length c0) ∧ (rd_L1 xs i).length ≤ c0 ∧ (Kd.int .i64).C w A0 (rd_L1 xs i).length (rd_L1 xs i) := by
  obtain ⟨ad, c, e, _, hK, hc0⟩ := Kd.C_get h ([] : List Int) i h0 h1
  have hc : ∀ j u, c[j]? = some u → w.cell? (ad.add (i.toNat * 1 + j)) = some u := hc0
  obtain ⟨A0, c0, rfl, l0, g0⟩ := hK
  exact ⟨ad, A0, c0, e, by have hq := hc 0 _ rfl; rwa [Nat.mul_one, Nat.add_zero] at hq, l0, g0⟩

/-! #### struct type 24 -/
structure S24 where
  f0 : (List Int)
  f1 : (List Int)
def z24 : S24 := ⟨([] : List Int), ([] : List Int)⟩
def k24 : Kd S24 := Kd.iso (Kd.pair (Kd.slice 2 (Kd.int .i64)) (Kd.slice 2 (Kd.int .i64))) (fun x : S24 => (x.f0, x.f1))
theorem k24_open {w : World} {x : S24} {cs : List Value} (h : k24.K w x cs) : ∃ A0 c0 A1 c1, cs = [.slice A0 x.f0.length c0, .slice A1 x.f1.length c1] ∧ x.f0.length ≤ c0 ∧ (Kd.int .i64).C w A0 x.f0.length x.f0 ∧ x.f1.length ≤ c1 ∧ (Kd.int .i64).C w A1 x.f1.length x.f1 := by
  obtain ⟨_, _, rfl, ⟨A0, c0, rfl, l0, g0⟩, ⟨A1, c1, rfl, l1, g1⟩⟩ := h
  exact ⟨A0, c0, A1, c1, rfl, l0, g0, l1, g1⟩
theorem k24_openM {w : World} {base : Nat} {ok : Nat → Prop} {x : S24} {cs : List Value} (h : k24.M w base ok x cs) : ∃ v0 v1, cs = [v0, v1] ∧ (Kd.int .i64).R 2 w base ok v0 x.f0 ∧ (Kd.int .i64).R 2 w base ok v1 x.f1 := by
  obtain ⟨_, _, rfl, ⟨v0, rfl, g0⟩, ⟨v1, rfl, g1⟩⟩ := h
  exact ⟨v0, v1, rfl, g0, g1⟩
theorem k24_mk (w : World) (x : S24) {A0 : Option Addr} {c0 : Nat} (l0 : x.f0.length ≤ c0) (g0 : (Kd.int .i64).C w A0 x.f0.length x.f0) {A1 : Option Addr} {c1 : Nat} (l1 : x.f1.length ≤ c1) (g1 : (Kd.int .i64).C w A1 x.f1.length x.f1) : k24.K w x [.slice A0 x.f0.length c0, .slice A1 x.f1.length c1] := ⟨[.slice A0 x.f0.length c0], [.slice A1 x.f1.length c1], rfl, ⟨A0, c0, rfl, l0, g0⟩, ⟨A1, c1, rfl, l1, g1⟩⟩
theorem k24_mkM (w : World) (base : Nat) (ok : Nat → Prop) (x : S24) {v0 : Value} (g0 : (Kd.int .i64).R 2 w base ok v0 x.f0) {v1 : Value} (g1 : (Kd.int .i64).R 2 w base ok v1 x.f1) : k24.M w base ok x [v0, v1] := ⟨[v0], [v1], rfl, ⟨v0, rfl, g0⟩, ⟨v1, rfl, g1⟩⟩
def rd_T24 (xs : List S24) (i : Int) : S24 := xs.getD i.toNat z24
theorem at_T24 {w : World} {A : Option Addr} {n : Nat} {xs : List S24} (h : Kd.C k24 w A n xs) (i : Int) (h0 : 0 ≤ i) (h1 : i < n) : ∃ ad A0 c0 A1 c1, A = some ad ∧ w.cell? (ad.add (i.toNat * 2)) = some (.slice A0 (rd_T24 xs i).f0.length c0) ∧ w.cell? ⟨(ad.add (i.toNat * 2)).block, (ad.add (i.toNat * 2)).off + 1, none⟩ = some (.slice A1 (rd_T24 xs i).f1.length c1) ∧ (rd_T24 xs i).f0.length ≤ c0 ∧ (Kd.int .i64).C w A0 (rd_T24 xs i).f0.length (rd_T24 xs i).f0 ∧ (rd_T24 xs i).f1.length ≤ c1 ∧ (Kd.int .i64).C w A1 (rd_T24 xs i).f1.length (rd_T24 xs i).f1 := by
  obtain ⟨ad, c, e, _, hK, hc0⟩ := Kd.C_get h z24 i h0 h1
  have hc : ∀ j u, c[j]? = some u → w.cell? (ad.add (i.toNat * 2 + j)) = some u := hc0
  obtain ⟨A0, c0, A1, c1, rfl, l0, g0, l1, g1⟩ := k24_open hK
  exact ⟨ad, A0, c0, A1, c1, e, hc 0 _ rfl, by rw [← add_field _ _ 1 (by omega)]; exact hc 1 _ rfl, l0, g0, l1, g1⟩

theorem yA : type_of% @Kd.R_alloc := @Kd.R_alloc
theorem yB : type_of% @Kd.R_drewN := @Kd.R_drewN
theorem yC : type_of% @Kd.R_drew := @Kd.R_drew
theorem yD : type_of% @Aside0.mk := @Aside0.mk
theorem yE : type_of% @below_set := @below_set
theorem yF : type_of% @Kd.R_far := @Kd.R_far
theorem yG : type_of% @blk_cell := @blk_cell
theorem yH : type_of% @Kd.R_base := @Kd.R_base
theorem yI : type_of% @Kd.R_told := @Kd.R_told
theorem yJ : type_of% @Kd.R_new' := @Kd.R_new'
theorem yK : type_of% @Kd.R_lt := @Kd.R_lt
theorem yL : type_of% @pw_below_drewN := @pw_below_drewN
theorem yM : type_of% @blk_drewN := @blk_drewN
theorem yN : type_of% @blk_alloc := @blk_alloc
theorem yO : type_of% @blk_drew := @blk_drew
theorem yP : type_of% @below_drew1 := @below_drew1
theorem yQ : type_of% @below_alloc := @below_alloc
theorem yR : type_of% @blk_frozen := @blk_frozen
theorem yV : type_of% @Kd.C_alloc := @Kd.C_alloc
theorem yW : type_of% @Kd.C_drewN := @Kd.C_drewN
theorem yX : type_of% @Kd.C_drew := @Kd.C_drew
theorem yY : type_of% @Kd.C_below := @Kd.C_below
theorem yZ : type_of% @Kd.R_lower := @Kd.R_lower
theorem zA : type_of% @Kd.R_reads' := @Kd.R_reads'
theorem zB : type_of% @blk_below := @blk_below
theorem zC : type_of% @below_step := @below_step
theorem zE : type_of% @Kd.R_below := @Kd.R_below
theorem zF : type_of% @Kd.R_mono := @Kd.R_mono
theorem zH : type_of% @List.setIfInBounds_toArray := @List.setIfInBounds_toArray
theorem zI : type_of% @List.set_cons_zero := @List.set_cons_zero
theorem zJ : type_of% @List.set_cons_succ := @List.set_cons_succ
theorem zK : type_of% @List.map_toArray := @List.map_toArray
theorem zL : type_of% @List.map_cons := @List.map_cons
theorem zM : type_of% @List.map_nil := @List.map_nil
theorem zN : type_of% @List.length_drop := @List.length_drop
theorem zO : type_of% @List.length_take := @List.length_take
theorem zP : type_of% @of_decide_eq_true := @of_decide_eq_true
theorem zQ : type_of% @World.block_lt_of_cell? := @World.block_lt_of_cell?
theorem zR : type_of% @decide_eq_true := @decide_eq_true
theorem zS : type_of% @decide_eq_false := @decide_eq_false
theorem pA {P : Program} {ops : Array Oper} {Q : Exit → Act → World → Prop} {md : Region.Mode} {S : World → Prop} {ds : List Nat} (i : Nat) (n : Tmp) {oi : Oper} {v : Value} {fuel : Nat} {l : Array Bool} {a : Act} {w : World} (l' : Array Bool) (hi : ops[i]? = some oi) (hN : oi.dst = some n) (hc : anyB md ops l l' i = true)
    (hQ : ∀ c a w, Q (.panic c) (a.put oi.dst v) w → Q (.panic c) a w) (hw : Region.wanted oi (yielded ops a.tmps) = true) (hy : ∀ w, (execOp a.eval oi).run P w = .ok (.value v) w) {a' : Act} (ha : a.put (some n) v = a')
    (h : wpAnyLast P md ops Q S ds fuel l' a' w) : wpAnyLast P md ops Q S ds (fuel + 1) l a w := pure_ l' hi hN hc hQ (Or.inl ⟨hw, hy⟩) ha h
theorem pB {P : Program} {ops : Array Oper} {Q : Exit → Act → World → Prop} {md : Region.Mode} {S : World → Prop} {ds : List Nat} (i : Nat) (n : Tmp) {oi : Oper} {fuel : Nat} {l : Array Bool} {a : Act} {w : World} (l' : Array Bool) (hi : ops[i]? = some oi) (hN : oi.dst = some n) (hc : anyB md ops l l' i = true)
    (hQ : ∀ c a w, Q (.panic c) (a.put oi.dst undef) w → Q (.panic c) a w) (hw : Region.wanted oi (yielded ops a.tmps) = false) {a' : Act} (ha : a.put (some n) undef = a')
    (h : wpAnyLast P md ops Q S ds fuel l' a' w) : wpAnyLast P md ops Q S ds (fuel + 1) l a w := pure_ l' hi hN hc hQ (Or.inr ⟨hw, rfl⟩) ha h
theorem pC {P : Program} {ops : Array Oper} {Q : Exit → Act → World → Prop} {md : Region.Mode} {S : World → Prop} {ds : List Nat} (i : Nat) (n : Tmp) {oi : Oper} {v : Value} {fuel : Nat} {l : Array Bool} {a : Act} {w : World} (l' : Array Bool) (hi : ops[i]? = some oi) (hN : oi.dst = some n) (hc : takeB md ops ds l l' i = true)
    (hQ : ∀ c a w, Q (.panic c) (a.put oi.dst v) w → Q (.panic c) a w) (hw : Region.wanted oi (yielded ops a.tmps) = true) (hS : S w) (hy : ∀ w, S w → (execOp a.eval oi).run P w = .ok (.value v) w) {a' : Act} (ha : a.put (some n) v = a')
    (h : wpAnyLast P md ops Q S ds fuel l' a' w) : wpAnyLast P md ops Q S ds (fuel + 1) l a w := take_ l' hi hN hc hQ (Or.inl ⟨hw, hy⟩) hS ha h
theorem pD {md : Region.Mode} {ops : Array Oper} {T : Bool × List (List Nat × List Nat)} {l l' : Array Bool} {i : Nat} (hT : Aside0 (rtab md ops = T)) (h : anyT T l.toList l'.toList i = true) : anyB md ops l l' i = true := any_of hT.out h
theorem zW_ {α β : Type} {o : Option α} {f : α → Option β} {b : β} (h : o.bind f = some b) : ∃ a, o = some a ∧ f a = some b := Option.bind_eq_some_iff.mp h
def bl : Nat → Nat → List Bool
  | 0, _ => []
  | n + 1, b => Nat.beq (b % 2) 1 :: bl n (b / 2)
def bz (n b : Nat) : Array Bool := ⟨bl n b⟩
theorem kM {A B : Prop} (h : Aside0 A) (f : A → B := by intro h_; (with_reducible repeat (first | refine yM ?_ _ | refine yO ?_ | refine yN ?_ _)); exact h_) : B := f h.out
theorem kA {A B : Prop} (h : Aside0 A) (f : A → B := by intro h_; (with_reducible repeat (first | apply yA | apply yB | apply yC)); exact h_) : B := f h.out
theorem kB {A B : Prop} (h : Aside0 A) (f : A → B := by intro h_; repeat (first | (with_reducible first | exact h_ | apply yQ | apply yL | apply yP | refine yE ?_ (Aside0.out (by assumption))) | exact h_)) : B := f h.out
theorem kV {A B : Prop} (h : A) (f : A → B := by intro h_; repeat (first | exact h_ | (with_reducible first | refine yV ?_ _ | refine yW ?_ _ | refine yX ?_))) : B := f h
theorem qA {P : Program} {ops : Array Oper} {Q : Exit → Act → World → Prop} {md : Region.Mode} {S : World → Prop} {ds : List Nat} (i : Nat) (n : Tmp) {oi : Oper} {v : Value} {fuel : Nat} {l : Array Bool} {a : Act} {w : World} (l' : Array Bool) {a' : Act} {T : Bool × List (List Nat × List Nat)} (hT : Aside0 (rtab md ops = T))
    (h : wpAnyLast P md ops Q S ds fuel l' a' w) (hi : ops[i]? = some oi := by rfl) (hN : oi.dst = some n := by rfl) (hc : anyT T l.toList l'.toList i = true := by kernel_rfl) (hQ : ∀ c a w, Q (.panic c) (a.put oi.dst v) w → Q (.panic c) a w := by exact fun _ _ _ h => h)
    (hw : Region.wanted oi (yielded ops a.tmps) = true := by rfl) (hy : ∀ w, (execOp a.eval oi).run P w = .ok (.value v) w := by intro _; go_simp; with_reducible rfl) (ha : a.put (some n) v = a' := by simp only [Act.put, zH, zI, zJ, i64_w, i32_w]; rfl) : wpAnyLast P md ops Q S ds (fuel + 1) l a w := pure_ l' hi hN (any_of hT.out hc) hQ (Or.inl ⟨hw, hy⟩) ha h
theorem qB {P : Program} {ops : Array Oper} {Q : Exit → Act → World → Prop} {md : Region.Mode} {S : World → Prop} {ds : List Nat} (i : Nat) (n : Tmp) {oi : Oper} {fuel : Nat} {l : Array Bool} {a : Act} {w : World} (l' : Array Bool) {a' : Act} {T : Bool × List (List Nat × List Nat)} (hT : Aside0 (rtab md ops = T))
    (h : wpAnyLast P md ops Q S ds fuel l' a' w) (hi : ops[i]? = some oi := by rfl) (hN : oi.dst = some n := by rfl) (hc : anyT T l.toList l'.toList i = true := by kernel_rfl) (hQ : ∀ c a w, Q (.panic c) (a.put oi.dst undef) w → Q (.panic c) a w := by exact fun _ _ _ h => h)
    (hw : Region.wanted oi (yielded ops a.tmps) = false := by rfl) (ha : a.put (some n) undef = a' := by simp only [Act.put, zH, zI, zJ, i64_w, i32_w]; rfl) : wpAnyLast P md ops Q S ds (fuel + 1) l a w := pure_ l' hi hN (any_of hT.out hc) hQ (Or.inr ⟨hw, rfl⟩) ha h
theorem qC {P : Program} {ops : Array Oper} {Q : Exit → Act → World → Prop} {md : Region.Mode} {S : World → Prop} {ds : List Nat} (i : Nat) (n : Tmp) {oi : Oper} {v : Value} {fuel : Nat} {l : Array Bool} {a : Act} {w : World} (l' : Array Bool) {a' : Act} {T : Bool × List (List Nat × List Nat)} {B : List Nat} (hT : Aside0 (rtab md ops = T)) (hB : Aside0 (waitsOk T.2 B = true)) (hS : S w)
    (h : wpAnyLast P md ops Q S ds fuel l' a' w) (hi : ops[i]? = some oi := by rfl) (hN : oi.dst = some n := by rfl) (hc : takeW T B ds l.toList l'.toList i = true := by kernel_rfl)
    (hQ : ∀ c a w, Q (.panic c) (a.put oi.dst v) w → Q (.panic c) a w := by exact fun _ _ _ h => h) (hw : Region.wanted oi (yielded ops a.tmps) = true := by rfl) (hy : ∀ w, S w → (execOp a.eval oi).run P w = .ok (.value v) w) (ha : a.put (some n) v = a' := by simp only [Act.put, zH, zI, zJ, i64_w, i32_w]; rfl) : wpAnyLast P md ops Q S ds (fuel + 1) l a w := take_ l' hi hN (take_ofW hT.out hB.out hc) hQ (Or.inl ⟨hw, hy⟩) hS ha h
theorem cz2 {w : World} {g : Nat} {t : TypeId} {a0 a1 : Value} (h : w.heap[g]? = some (.cells #[a0, a1] t (0, 0))) : w.cell? ⟨g, 0, none⟩ = some a0 ∧ w.cell? ⟨g, 1, none⟩ = some a1 := ⟨(yG h 0).trans rfl, (yG h 1).trans rfl⟩
theorem fz2 {w : World} {g : Nat} {t : TypeId} {cs : Array Value} (h : w.heap[g]? = some (.cells cs t (0, 0))) : w.frozen? ⟨g, 0, none⟩ = false ∧ w.frozen? ⟨g, 1, none⟩ = false := ⟨yR h 0, yR h 1⟩
end Go.Proofs.Ytlfjepcmlgfogaa.PFnExactCutBox
