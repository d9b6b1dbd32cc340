/- Each Go function here comes to what the plain function of its name says, where that says something. Made by a program of this session, over the print. -/
import Derived.Test.YtdiaebjbiddefaaPFnSlabAlgebraw1
import Derived.Test.YtdiaebjbiddefaaProg
import Derived.Shelf.Spec.SlicesGrow
namespace Go.Proofs.Ytdiaebjbiddefaa.PFnSlabAlgebra
open Go.RowKit Go.Proofs.YtdiaebjbiddefaaW.PrintWords Go.Proofs.YtdiaebjbiddefaaW.PrintLast Go.Proofs.YtdiaebjbiddefaaW.PrintMore
attribute [local go_sem] max2_int min2_int max_two min_two max_three min_three max_four min_four   -- for this text's walks alone
set_option linter.unusedVariables false
set_option linter.unusedSimpArgs false
abbrev oB (v : Value) (k : Nat) : Prop := some k ≠ v.ownBlock



def errW : Option Int → Value
 | none => .nilIface
 | some c => .iface 0 (.int .i64 c)
theorem errW_none : errW none = .nilIface := rfl
theorem errW_some (c : Int) : errW (some c) = .iface 0 (.int .i64 c) := rfl

theorem info2 : (Try.prog.info? 2).map (fun i => (i.zero, i.size, i.bytes)) = some (some (.int .i64 0), 1, 8) := by kernel_rfl
theorem info24 : (Try.prog.info? 24).map (fun i => (i.zero, i.size, i.bytes)) = some (some (.slice none 0 0), 1, 24) := by kernel_rfl
theorem info36 : (Try.prog.info? 36).map (fun i => (i.zero, i.size, i.bytes)) = some (some (.slice none 0 0), 1, 24) := by kernel_rfl
theorem info42 : (Try.prog.info? 42).map (fun i => (i.zero, i.size, i.bytes)) = some (some (.agg #[(.slice none 0 0), (.slice none 0 0)]), 2, 48) := by kernel_rfl
-- the values' own types
def rd_L2 (xs : List (List Int)) (i : Int) : (List Int) := xs.getD i.toNat ([] : List Int)
theorem at_L2 {w : World} {A : Option Addr} {n : Nat} {xs : List (List Int)} (h : Kd.C (Kd.slice 2 (Kd.int .i64)) w A n xs) (i : Int) (h0 : 0 ≤ i) (h1 : i < n) : ∃ ad A0 c0, A = some ad ∧ w.cell? (ad.add i.toNat) = some (.slice A0 (rd_L2 xs i).length c0) ∧ (rd_L2 xs i).length ≤ c0 ∧ (Kd.int .i64).C w A0 (rd_L2 xs i).length (rd_L2 xs i) := by
 obtain ⟨ad, c, e, _, hK, hc0⟩ := Kd.C_get h ([] : List Int) i h0 h1
 have hc : ∀ j u, c[j]? = some u → w.cell? (ad.add (i.toNat * 1 + j)) = some u := hc0
 obtain ⟨A0, c0, rfl, l0, g0⟩ := hK
 exact ⟨ad, A0, c0, e, by have hq := hc 0 _ rfl; rwa [Nat.mul_one, Nat.add_zero] at hq, l0, g0⟩

/-! #### struct type 42 -/
structure S42 where
 f0 : (List Int)
 f1 : (List Int)
def z42 : S42 := ⟨([] : List Int), ([] : List Int)⟩
def k42 : Kd S42 := Kd.iso (Kd.pair (Kd.slice 2 (Kd.int .i64)) (Kd.slice 2 (Kd.int .i64))) (fun x : S42 => (x.f0, x.f1))
theorem k42_heap : Kd.Heap k42 := Kd.heap_iso _ (Kd.heap_pair (Kd.heap_slice 2 (Kd.heap_int .i64)) (Kd.heap_slice 2 (Kd.heap_int .i64)))
theorem k42_open {w : World} {x : S42} {cs : List Value} (h : k42.K w x cs) : ∃ A0 c0 A1 c1, cs = [.slice A0 x.f0.length c0, .slice A1 x.f1.length c1] ∧ x.f0.length ≤ c0 ∧ (Kd.int .i64).C w A0 x.f0.length x.f0 ∧ x.f1.length ≤ c1 ∧ (Kd.int .i64).C w A1 x.f1.length x.f1 := by
 obtain ⟨_, _, rfl, ⟨A0, c0, rfl, l0, g0⟩, ⟨A1, c1, rfl, l1, g1⟩⟩ := h
 exact ⟨A0, c0, A1, c1, rfl, l0, g0, l1, g1⟩
theorem k42_openM {w : World} {base : Nat} {ok : Nat → Prop} {x : S42} {cs : List Value} (h : k42.M w base ok x cs) : ∃ v0 v1, cs = [v0, v1] ∧ (Kd.int .i64).R 2 w base ok v0 x.f0 ∧ (Kd.int .i64).R 2 w base ok v1 x.f1 := by
 obtain ⟨_, _, rfl, ⟨v0, rfl, g0⟩, ⟨v1, rfl, g1⟩⟩ := h
 exact ⟨v0, v1, rfl, g0, g1⟩
theorem k42_mk (w : World) (x : S42) {A0 : Option Addr} {c0 : Nat} (l0 : x.f0.length ≤ c0) (g0 : (Kd.int .i64).C w A0 x.f0.length x.f0) {A1 : Option Addr} {c1 : Nat} (l1 : x.f1.length ≤ c1) (g1 : (Kd.int .i64).C w A1 x.f1.length x.f1) : k42.K w x [.slice A0 x.f0.length c0, .slice A1 x.f1.length c1] := ⟨[.slice A0 x.f0.length c0], [.slice A1 x.f1.length c1], rfl, ⟨A0, c0, rfl, l0, g0⟩, ⟨A1, c1, rfl, l1, g1⟩⟩
theorem k42_mkM (w : World) (base : Nat) (ok : Nat → Prop) (x : S42) {v0 : Value} (g0 : (Kd.int .i64).R 2 w base ok v0 x.f0) {v1 : Value} (g1 : (Kd.int .i64).R 2 w base ok v1 x.f1) : k42.M w base ok x [v0, v1] := ⟨[v0], [v1], rfl, ⟨v0, rfl, g0⟩, ⟨v1, rfl, g1⟩⟩
theorem k42_openF {W : World} {ok : Nat → Prop} {x : S42} {cs : List Value} (h : Kd.FK k42 W ok x cs) : ∃ A0 c0 A1 c1, cs = [.slice A0 x.f0.length c0, .slice A1 x.f1.length c1] ∧ x.f0.length ≤ c0 ∧ Kd.F (Kd.int .i64) W ok A0 x.f0.length x.f0 ∧ x.f1.length ≤ c1 ∧ Kd.F (Kd.int .i64) W ok A1 x.f1.length x.f1 := by
 obtain ⟨A0, c0, A1, c1, rfl, l0, _, l1, _⟩ := k42_open (Kd.FK_now h)
 exact ⟨A0, c0, A1, c1, rfl, l0, (fun W' hW => by obtain ⟨A0_, c0_, A1_, c1_, he, l0_, g0_, l1_, g1_⟩ := k42_open (h W' hW); injection (Option.some.inj (show some (Value.slice A0 x.f0.length c0) = some (Value.slice A0_ x.f0.length c0_) from congrArg (fun l => l[0]?) he)) with ha_ _ _; rw [ha_]; exact g0_), l1, (fun W' hW => by obtain ⟨A0_, c0_, A1_, c1_, he, l0_, g0_, l1_, g1_⟩ := k42_open (h W' hW); injection (Option.some.inj (show some (Value.slice A1 x.f1.length c1) = some (Value.slice A1_ x.f1.length c1_) from congrArg (fun l => l[1]?) he)) with ha_ _ _; rw [ha_]; exact g1_)⟩
theorem k42_mkF (W : World) (ok : Nat → Prop) (x : S42) {A0 : Option Addr} {c0 : Nat} (l0 : x.f0.length ≤ c0) (g0 : Kd.F (Kd.int .i64) W ok A0 x.f0.length x.f0) {A1 : Option Addr} {c1 : Nat} (l1 : x.f1.length ≤ c1) (g1 : Kd.F (Kd.int .i64) W ok A1 x.f1.length x.f1) : Kd.FK k42 W ok x [.slice A0 x.f0.length c0, .slice A1 x.f1.length c1] := fun W2 hW => k42_mk W2 x l0 (g0 W2 hW) l1 (g1 W2 hW)
def rd_T42 (xs : List S42) (i : Int) : S42 := xs.getD i.toNat z42
theorem at_T42 {w : World} {A : Option Addr} {n : Nat} {xs : List S42} (h : Kd.C k42 w A n xs) (i : Int) (h0 : 0 ≤ i) (h1 : i < n) : ∃ ad A0 c0 A1 c1, A = some ad ∧ w.cell? (ad.add (i.toNat * 2)) = some (.slice A0 (rd_T42 xs i).f0.length c0) ∧ w.cell? ⟨(ad.add (i.toNat * 2)).block, (ad.add (i.toNat * 2)).off + 1, none⟩ = some (.slice A1 (rd_T42 xs i).f1.length c1) ∧ (rd_T42 xs i).f0.length ≤ c0 ∧ (Kd.int .i64).C w A0 (rd_T42 xs i).f0.length (rd_T42 xs i).f0 ∧ (rd_T42 xs i).f1.length ≤ c1 ∧ (Kd.int .i64).C w A1 (rd_T42 xs i).f1.length (rd_T42 xs i).f1 := by
 obtain ⟨ad, c, e, _, hK, hc0⟩ := Kd.C_get h z42 i h0 h1
 have hc : ∀ j u, c[j]? = some u → w.cell? (ad.add (i.toNat * 2 + j)) = some u := hc0
 obtain ⟨A0, c0, A1, c1, rfl, l0, g0, l1, g1⟩ := k42_open hK
 exact ⟨ad, A0, c0, A1, c1, e, hc 0 _ rfl, by rw [← add_field _ _ 1 (by omega)]; exact hc 1 _ rfl, l0, g0, l1, g1⟩

def rd_L4 (xs : List (List S42)) (i : Int) : (List S42) := xs.getD i.toNat ([] : List S42)
theorem at_L4 {w : World} {A : Option Addr} {n : Nat} {xs : List (List S42)} (h : Kd.C (Kd.slice 42 k42) w A n xs) (i : Int) (h0 : 0 ≤ i) (h1 : i < n) : ∃ ad A0 c0, A = some ad ∧ w.cell? (ad.add i.toNat) = some (.slice A0 (rd_L4 xs i).length c0) ∧ (rd_L4 xs i).length ≤ c0 ∧ k42.C w A0 (rd_L4 xs i).length (rd_L4 xs i) := by
 obtain ⟨ad, c, e, _, hK, hc0⟩ := Kd.C_get h ([] : List S42) i h0 h1
 have hc : ∀ j u, c[j]? = some u → w.cell? (ad.add (i.toNat * 1 + j)) = some u := hc0
 obtain ⟨A0, c0, rfl, l0, g0⟩ := hK
 exact ⟨ad, A0, c0, e, by have hq := hc 0 _ rfl; rwa [Nat.mul_one, Nat.add_zero] at hq, l0, g0⟩

def rd_L5 (xs : List (List Int)) (i : Int) : (List Int) := xs.getD i.toNat ([] : List Int)
theorem at_L5 {w : World} {A : Option Addr} {n : Nat} {xs : List (List Int)} (h : Kd.C (Kd.slice 5 (Kd.int .u8)) w A n xs) (i : Int) (h0 : 0 ≤ i) (h1 : i < n) : ∃ ad A0 c0, A = some ad ∧ w.cell? (ad.add i.toNat) = some (.slice A0 (rd_L5 xs i).length c0) ∧ (rd_L5 xs i).length ≤ c0 ∧ (Kd.int .u8).C w A0 (rd_L5 xs i).length (rd_L5 xs i) := by
 obtain ⟨ad, c, e, _, hK, hc0⟩ := Kd.C_get h ([] : List Int) i h0 h1
 have hc : ∀ j u, c[j]? = some u → w.cell? (ad.add (i.toNat * 1 + j)) = some u := hc0
 obtain ⟨A0, c0, rfl, l0, g0⟩ := hK
 exact ⟨ad, A0, c0, e, by have hq := hc 0 _ rfl; rwa [Nat.mul_one, Nat.add_zero] at hq, l0, g0⟩

theorem yA : type_of% @Kd.R_alloc := @Kd.R_alloc
theorem yB : type_of% @Kd.R_drewN := @Kd.R_drewN
theorem yC : type_of% @Kd.R_drew := @Kd.R_drew
theorem yD : type_of% @Aside0.mk := @Aside0.mk
theorem yE : type_of% @below_set := @below_set
theorem yF : type_of% @Kd.R_far := @Kd.R_far
theorem yG : type_of% @blk_cell := @blk_cell
theorem yH : type_of% @Kd.R_base := @Kd.R_base
theorem yJ : type_of% @Kd.R_new' := @Kd.R_new'
theorem yK : type_of% @Kd.R_lt := @Kd.R_lt
theorem yL : type_of% @pw_below_drewN := @pw_below_drewN
theorem yM : type_of% @blk_drewN := @blk_drewN
theorem yN : type_of% @blk_alloc := @blk_alloc
theorem yO : type_of% @blk_drew := @blk_drew
theorem yP : type_of% @below_drew1 := @below_drew1
theorem yQ : type_of% @below_alloc := @below_alloc
theorem yR : type_of% @blk_frozen := @blk_frozen
theorem yS : type_of% @Kd.S_alloc := @Kd.S_alloc
theorem yT : type_of% @Kd.S_drewN := @Kd.S_drewN
theorem yU : type_of% @Kd.S_drew := @Kd.S_drew
theorem yV : type_of% @Kd.C_alloc := @Kd.C_alloc
theorem yW : type_of% @Kd.C_drewN := @Kd.C_drewN
theorem yX : type_of% @Kd.C_drew := @Kd.C_drew
theorem yY : type_of% @Kd.C_below := @Kd.C_below
theorem yZ : type_of% @Kd.R_lower := @Kd.R_lower
theorem zA : type_of% @Kd.R_reads' := @Kd.R_reads'
theorem zB : type_of% @blk_below := @blk_below
theorem zC : type_of% @below_step := @below_step
theorem zD : type_of% @Kd.S_new' := @Kd.S_new'
theorem zE : type_of% @Kd.R_below := @Kd.R_below
theorem zF : type_of% @Kd.R_mono := @Kd.R_mono
theorem zG : type_of% @Kd.S_lower := @Kd.S_lower
theorem zH : type_of% @List.setIfInBounds_toArray := @List.setIfInBounds_toArray
theorem zI : type_of% @List.set_cons_zero := @List.set_cons_zero
theorem zJ : type_of% @List.set_cons_succ := @List.set_cons_succ
theorem zK : type_of% @List.map_toArray := @List.map_toArray
theorem zL : type_of% @List.map_cons := @List.map_cons
theorem zM : type_of% @List.map_nil := @List.map_nil
theorem zN : type_of% @List.length_drop := @List.length_drop
theorem zO : type_of% @List.length_take := @List.length_take
theorem zP : type_of% @of_decide_eq_true := @of_decide_eq_true
theorem zQ : type_of% @World.block_lt_of_cell? := @World.block_lt_of_cell?
theorem zR : type_of% @decide_eq_true := @decide_eq_true
theorem zS : type_of% @decide_eq_false := @decide_eq_false
theorem pA {P : Program} {ops : Array Oper} {Q : Exit → Act → World → Prop} {md : Region.Mode} {S : World → Prop} {ds : List Nat} (i : Nat) (n : Tmp) {oi : Oper} {v : Value} {fuel : Nat} {l : Array Bool} {a : Act} {w : World} (l' : Array Bool) (hi : ops[i]? = some oi) (hN : oi.dst = some n) (hc : anyB md ops l l' i = true)
 (hQ : ∀ c a w, Q (.panic c) (a.put oi.dst v) w → Q (.panic c) a w) (hw : Region.wanted oi (yielded ops a.tmps) = true) (hy : ∀ w, (execOp a.eval oi).run P w = .ok (.value v) w) {a' : Act} (ha : a.put (some n) v = a')
 (h : wpAnyLast P md ops Q S ds fuel l' a' w) : wpAnyLast P md ops Q S ds (fuel + 1) l a w := pure_ l' hi hN hc hQ (Or.inl ⟨hw, hy⟩) ha h
theorem pB {P : Program} {ops : Array Oper} {Q : Exit → Act → World → Prop} {md : Region.Mode} {S : World → Prop} {ds : List Nat} (i : Nat) (n : Tmp) {oi : Oper} {fuel : Nat} {l : Array Bool} {a : Act} {w : World} (l' : Array Bool) (hi : ops[i]? = some oi) (hN : oi.dst = some n) (hc : anyB md ops l l' i = true)
 (hQ : ∀ c a w, Q (.panic c) (a.put oi.dst undef) w → Q (.panic c) a w) (hw : Region.wanted oi (yielded ops a.tmps) = false) {a' : Act} (ha : a.put (some n) undef = a')
 (h : wpAnyLast P md ops Q S ds fuel l' a' w) : wpAnyLast P md ops Q S ds (fuel + 1) l a w := pure_ l' hi hN hc hQ (Or.inr ⟨hw, rfl⟩) ha h
theorem pC {P : Program} {ops : Array Oper} {Q : Exit → Act → World → Prop} {md : Region.Mode} {S : World → Prop} {ds : List Nat} (i : Nat) (n : Tmp) {oi : Oper} {v : Value} {fuel : Nat} {l : Array Bool} {a : Act} {w : World} (l' : Array Bool) (hi : ops[i]? = some oi) (hN : oi.dst = some n) (hc : takeB md ops ds l l' i = true)
 (hQ : ∀ c a w, Q (.panic c) (a.put oi.dst v) w → Q (.panic c) a w) (hw : Region.wanted oi (yielded ops a.tmps) = true) (hS : S w) (hy : ∀ w, S w → (execOp a.eval oi).run P w = .ok (.value v) w) {a' : Act} (ha : a.put (some n) v = a')
 (h : wpAnyLast P md ops Q S ds fuel l' a' w) : wpAnyLast P md ops Q S ds (fuel + 1) l a w := take_ l' hi hN hc hQ (Or.inl ⟨hw, hy⟩) hS ha h
theorem pD {md : Region.Mode} {ops : Array Oper} {T : Bool × List (List Nat × List Nat)} {l l' : Array Bool} {i : Nat} (hT : Aside0 (rtab md ops = T)) (h : anyT T l.toList l'.toList i = true) : anyB md ops l l' i = true := any_of hT.out h
theorem zW_ {α β : Type} {o : Option α} {f : α → Option β} {b : β} (h : o.bind f = some b) : ∃ a, o = some a ∧ f a = some b := Option.bind_eq_some_iff.mp h
def bl : Nat → Nat → List Bool
 | 0, _ => []
 | n + 1, b => Nat.beq (b % 2) 1 :: bl n (b / 2)
def bz (n b : Nat) : Array Bool := ⟨bl n b⟩
theorem kM {A B : Prop} (h : Aside0 A) (f : A → B := by intro h_; (with_reducible repeat (first | refine yM ?_ _ | refine yO ?_ | refine yN ?_ _)); exact h_) : B := f h.out
theorem kA {A B : Prop} (h : Aside0 A) (f : A → B := by intro h_; (with_reducible repeat (first | apply yA | apply yB | apply yC)); exact h_) : B := f h.out
theorem kB {A B : Prop} (h : Aside0 A) (f : A → B := by intro h_; repeat (first | (with_reducible first | exact h_ | apply yQ | apply yL | apply yP | refine yE ?_ (Aside0.out (by assumption))) | exact h_)) : B := f h.out
theorem kV {A B : Prop} (h : A) (f : A → B := by intro h_; repeat (first | exact h_ | (with_reducible first | refine yV ?_ _ | refine yW ?_ _ | refine yX ?_))) : B := f h
theorem qA {P : Program} {ops : Array Oper} {Q : Exit → Act → World → Prop} {md : Region.Mode} {S : World → Prop} {ds : List Nat} (i : Nat) (n : Tmp) {oi : Oper} {v : Value} {fuel : Nat} {l : Array Bool} {a : Act} {w : World} (l' : Array Bool) {a' : Act} {T : Bool × List (List Nat × List Nat)} (hT : Aside0 (rtab md ops = T))
 (h : wpAnyLast P md ops Q S ds fuel l' a' w) (hi : ops[i]? = some oi := by rfl) (hN : oi.dst = some n := by rfl) (hc : anyT T l.toList l'.toList i = true := by kernel_rfl) (hQ : ∀ c a w, Q (.panic c) (a.put oi.dst v) w → Q (.panic c) a w := by exact fun _ _ _ h => h)
 (hw : Region.wanted oi (yielded ops a.tmps) = true := by rfl) (hy : ∀ w, (execOp a.eval oi).run P w = .ok (.value v) w := by intro _; go_simp; with_reducible rfl) (ha : a.put (some n) v = a' := by simp only [Act.put, zH, zI, zJ, i64_w, i32_w]; rfl) : wpAnyLast P md ops Q S ds (fuel + 1) l a w := pure_ l' hi hN (any_of hT.out hc) hQ (Or.inl ⟨hw, hy⟩) ha h
theorem qB {P : Program} {ops : Array Oper} {Q : Exit → Act → World → Prop} {md : Region.Mode} {S : World → Prop} {ds : List Nat} (i : Nat) (n : Tmp) {oi : Oper} {fuel : Nat} {l : Array Bool} {a : Act} {w : World} (l' : Array Bool) {a' : Act} {T : Bool × List (List Nat × List Nat)} (hT : Aside0 (rtab md ops = T))
 (h : wpAnyLast P md ops Q S ds fuel l' a' w) (hi : ops[i]? = some oi := by rfl) (hN : oi.dst = some n := by rfl) (hc : anyT T l.toList l'.toList i = true := by kernel_rfl) (hQ : ∀ c a w, Q (.panic c) (a.put oi.dst undef) w → Q (.panic c) a w := by exact fun _ _ _ h => h)
 (hw : Region.wanted oi (yielded ops a.tmps) = false := by rfl) (ha : a.put (some n) undef = a' := by simp only [Act.put, zH, zI, zJ, i64_w, i32_w]; rfl) : wpAnyLast P md ops Q S ds (fuel + 1) l a w := pure_ l' hi hN (any_of hT.out hc) hQ (Or.inr ⟨hw, rfl⟩) ha h
theorem qC {P : Program} {ops : Array Oper} {Q : Exit → Act → World → Prop} {md : Region.Mode} {S : World → Prop} {ds : List Nat} (i : Nat) (n : Tmp) {oi : Oper} {v : Value} {fuel : Nat} {l : Array Bool} {a : Act} {w : World} (l' : Array Bool) {a' : Act} {T : Bool × List (List Nat × List Nat)} {B : List Nat} (hT : Aside0 (rtab md ops = T)) (hB : Aside0 (waitsOk T.2 B = true)) (hS : S w)
 (h : wpAnyLast P md ops Q S ds fuel l' a' w) (hi : ops[i]? = some oi := by rfl) (hN : oi.dst = some n := by rfl) (hc : takeW T B ds l.toList l'.toList i = true := by kernel_rfl)
 (hQ : ∀ c a w, Q (.panic c) (a.put oi.dst v) w → Q (.panic c) a w := by exact fun _ _ _ h => h) (hw : Region.wanted oi (yielded ops a.tmps) = true := by rfl) (hy : ∀ w, S w → (execOp a.eval oi).run P w = .ok (.value v) w) (ha : a.put (some n) v = a' := by simp only [Act.put, zH, zI, zJ, i64_w, i32_w]; rfl) : wpAnyLast P md ops Q S ds (fuel + 1) l a w := take_ l' hi hN (take_ofW hT.out hB.out hc) hQ (Or.inl ⟨hw, hy⟩) hS ha h
theorem cz2 {w : World} {g : Nat} {t : TypeId} {a0 a1 : Value} (h : w.heap[g]? = some (.cells #[a0, a1] t (0, 0))) : w.cell? ⟨g, 0, none⟩ = some a0 ∧ w.cell? ⟨g, 1, none⟩ = some a1 := ⟨(yG h 0).trans rfl, (yG h 1).trans rfl⟩
theorem fz2 {w : World} {g : Nat} {t : TypeId} {cs : Array Value} (h : w.heap[g]? = some (.cells cs t (0, 0))) : w.frozen? ⟨g, 0, none⟩ = false ∧ w.frozen? ⟨g, 1, none⟩ = false := ⟨yR h 0, yR h 1⟩
theorem kR0 {B : Nat} {w W W' : World} (h : Aside0 (Below B w W)) (f : Below B w W → Below B w W' := by intro h_; repeat (first | (with_reducible first | exact h_ | apply yQ | apply yL | apply yP) | exact h_)) : Below B w W' := f h.out
theorem kR1 {B : Nat} {w W W' : World} (h : Aside0 (Below B w W)) (f : Below B w W → Below B w W' := by intro h_; repeat (first | (with_reducible first | exact h_ | apply yQ | apply yL | apply yP | refine yE ?_ (Aside0.out (by assumption))) | exact h_)) : Below B w W' := f h.out
theorem kR2 {A B : Prop} (h : Aside0 (A)) (f : A → B := by intro h_; repeat (first | (with_reducible first | exact h_ | apply IsS101.alloc | apply IsS101.drewN | apply IsS101.drew | apply IsS101.set_1 | apply IsS101.set_2) | exact h_)) : B := f h.out
theorem kR3 {B : Nat} {w W W' : World} (h : Aside0 (Below B w W)) (f : Below B w W → Below B w W' := by intro h_; repeat (first | (with_reducible first | exact h_ | apply yQ | apply yL | apply yP | refine yE ?_ (IsS101.ge (Aside0.out (by assumption)))) | exact h_)) : Below B w W' := f h.out
theorem kR4 {w W W' : World} {g : Nat} {row : Option Nat} (h : Aside0 (KeepBut w W g row)) (f : KeepBut w W g row → KeepBut w W' g row := by intro h_; repeat (first | (with_reducible first | exact h_ | apply KeepBut.set_ | apply keep_drewN | apply keep_drew | apply keep_alloc) | exact h_)) : KeepBut w W' g row := f h.out
theorem kR5 {A B : Prop} (h : Aside0 (A)) (f : A → B := by intro h_; repeat (first | (with_reducible first | exact h_ | apply IsS101.alloc | apply IsS101.drewN | apply IsS101.drew | apply IsS101.set_1 | apply IsS101.set_2 | (apply IsS101.far; case hne => exact Aside0.out (by assumption))) | exact h_)) : B := f h.out
theorem kR6 {w W W' : World} {g : Nat} {row : Option Nat} (h : Aside0 (KeepBut w W g row)) (f : KeepBut w W g row → KeepBut w W' g row := by intro h_; repeat (first | (with_reducible first | exact h_ | apply KeepBut.set_ | apply keep_drewN | apply keep_drew | apply keep_alloc | refine keep_far ?_ (Aside0.out (by assumption)) _) | exact h_)) : KeepBut w W' g row := f h.out
theorem kR7 {B : Nat} {w W W' : World} (h : Aside0 (Below B w W)) (f : Below B w W → Below B w W' := by intro h_; repeat (first | (with_reducible first | exact h_ | apply yQ | apply yL | apply yP | refine yE ?_ (IsS101.ge (Aside0.out (by assumption))) | refine yE ?_ (Aside0.out (by assumption))) | exact h_)) : Below B w W' := f h.out
theorem kR8 {A B : Prop} (h : Aside0 (A)) (f : A → B := by intro h_; repeat (first | (with_reducible first | exact h_ | apply below_alloc | apply pw_below_drewN | apply below_drew1) | exact h_)) : B := f h.out
theorem gL {P : Program} {ops : Array Oper} {Q : Exit → Act → World → Prop} {rest : List Oper} {oi : Oper} {a : Act} {w : World} (N : Tmp) {f : FuncId} {fn : Func} {as' : Array Operand} {ts : Array TypeId} (hf : P.funcs[f]? = some fn) (args : Array Value)
 (h : Calls P f args w fun e w' => ∃ v, e = .returned v ∧ wpList P ops Q rest (a.put (some N) v) w') (hd : oi.dst = some N := by rfl) (hg : oi.guard = none := by rfl) (hname : (fn.name == "runtime.NumGoroutine") = false := by kernel_rfl) (hb : fn.body.isSome = true := by rfl) (hop : oi.op = .call { callee := .value (.func f), args := as', argTypes := ts } := by rfl)
 (hargs : as'.map a.eval = args := by (try simp only [zK, zL, zM]); first | done | rfl | (simp only [zN, zO]; rfl)) : wpList P ops Q (oi :: rest) a w := goesL_ (some N) hd hg hf hname hb args hop hargs h
theorem kN {W w : World} {g : Nat} {o : Obj} (h : Aside0 (W.heap[g]? = some o)) (f : W.heap[g]? = some o → w.heap[g]? = some o := by intro h_; (with_reducible repeat (first | refine yM ?_ _ | refine yO ?_ | refine yN ?_ _)); exact h_) : w.heap[g]? = some o := f h.out
theorem kS {A B : Prop} (h : Aside0 A) (f : A → B := by intro h_; (with_reducible repeat (first | apply yS | apply yT | apply yU)); exact h_) : B := f h.out
theorem kQ {A B : Prop} (h : Aside0 A) (f : A → B := by intro h_; (with_reducible repeat (first | apply Kd.N_alloc | apply Kd.N_drewN | apply Kd.N_drew)); exact h_) : B := f h.out
theorem kU {A B : Prop} (h : Aside0 A) (f : A → B := by intro h_; (with_reducible repeat (first | apply Kd.V_alloc | apply Kd.V_drewN | apply Kd.V_drew)); exact h_) : B := f h.out
theorem mN {α : Type} {d : Kd α} {e base : Nat} {W w : World} {ok ok' : Nat → Prop} {v : Value} {xs : List α} (h : Aside0 (Kd.N d e W base ok v xs)) (hok : ∀ k, ok k → ok' k) (f : Kd.N d e W base ok' v xs → Kd.N d e w base ok' v xs := by intro h_; (with_reducible repeat (first | apply Kd.N_alloc | apply Kd.N_drewN | apply Kd.N_drew)); exact h_) : Kd.N d e w base ok' v xs := f (Kd.N_mono h.out hok)
theorem mR {α : Type} {d : Kd α} {e base : Nat} {W w : World} {ok ok' : Nat → Prop} {v : Value} {xs : List α} (h : Aside0 (Kd.R d e W base ok v xs)) (hok : ∀ k, ok k → ok' k) (f : Kd.R d e W base ok' v xs → Kd.R d e w base ok' v xs := by intro h_; (with_reducible repeat (first | apply yA | apply yB | apply yC)); exact h_) : Kd.R d e w base ok' v xs := f (Kd.R_mono h.out hok)
theorem mS {α : Type} {d : Kd α} {e base : Nat} {W w : World} {ok ok' : Nat → Prop} {v : Value} {xs : List α} (h : Aside0 (Kd.S d e W base ok v xs)) (hok : ∀ k, ok k → ok' k) (f : Kd.S d e W base ok' v xs → Kd.S d e w base ok' v xs := by intro h_; (with_reducible repeat (first | apply yS | apply yT | apply yU)); exact h_) : Kd.S d e w base ok' v xs := f (Kd.S_mono h.out hok)
theorem mV {α : Type} {d : Kd α} {e base : Nat} {W w : World} {ok ok' : Nat → Prop} {v : Value} {xs : List α} (h : Aside0 (Kd.V d e W base ok v xs)) (hok : ∀ k, ok k → ok' k) (f : Kd.V d e W base ok' v xs → Kd.V d e w base ok' v xs := by intro h_; (with_reducible repeat (first | apply Kd.V_alloc | apply Kd.V_drewN | apply Kd.V_drew)); exact h_) : Kd.V d e w base ok' v xs := f (Kd.V_mono h.out hok)
end Go.Proofs.Ytdiaebjbiddefaa.PFnSlabAlgebra
