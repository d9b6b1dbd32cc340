/- Each Go function here comes to what the plain function of its name says, where that says something. Made by a program of this session, over the print. -/
import Derived.Test.YtngjbdijimapnadProg
import Derived.Below
import Derived.Deep.Draws
import Derived.Deep.AppendLies
import Derived.Maps.AppendAt
import Derived.OwnWalk
import Derived.Laws.BytesArg
import Derived.Laws.MakeOwn
import Derived.Laws.OwnMore
import Derived.Deep.OwnRows
import Derived.Tactics
import Derived.Lib.ConvBytes
import Derived.Laws.Slices
import Derived.WalkKit
import Derived.KernelRfl
import Derived.RowKit3
import Derived.Deep.LoopGhost
import Derived.Deep.QuietTactic
import Derived.BigQuiet
import Derived.WideLaws
import Derived.Deep.DeepCutAuto
import Derived.Deep.CutBlock
import Derived.Deep.RegionHeld3
import Derived.Laws.Rows
import Derived.Lib.AppendStr
import Derived.ArgAppend
import Derived.Laws.IdiomCopy
import Derived.OrdersHeld
import Derived.Laws.BitsLemmas
import Derived.RowKit
import Derived.Test.YtngjbdijimapnadWWords
import Derived.Test.YtngjbdijimapnadWLast
import Derived.Test.YtngjbdijimapnadWTab
import Derived.Test.YtngjbdijimapnadWFour
import Derived.Test.YtngjbdijimapnadWQPut
import Derived.Test.YtngjbdijimapnadWApart
import Derived.Test.YtngjbdijimapnadWArr
import Derived.Test.YtngjbdijimapnadWZeros
import Derived.Test.YtngjbdijimapnadWFoot
import Derived.Test.YtngjbdijimapnadWKept
import Derived.Test.YtngjbdijimapnadWShare
import Derived.Test.YtngjbdijimapnadWN
import Derived.Test.YtngjbdijimapnadWFootNe
import Derived.Test.YtngjbdijimapnadWAt
import Derived.Test.YtngjbdijimapnadWEqStruct
import Derived.Test.YtngjbdijimapnadWRepsOne
import Derived.Test.YtngjbdijimapnadWInv
import Derived.Test.YtngjbdijimapnadWInvWords
import Derived.Test.YtngjbdijimapnadWGuard
import Derived.Test.YtngjbdijimapnadWNEv
import Derived.Test.YtngjbdijimapnadWMore
namespace Go.Proofs.Ytngjbdijimapnad.PFnExactSameSelection
open Go.RowKit Go.Proofs.YtngjbdijimapnadW.PrintWords Go.Proofs.YtngjbdijimapnadW.PrintLast Go.Proofs.YtngjbdijimapnadW.PrintMore
attribute [local go_sem] max2_int min2_int max_two min_two max_three min_three max_four min_four   -- for this text's walks alone
set_option linter.unusedVariables false
set_option linter.unusedSimpArgs false



def errW : Option Int → Value
  | none => .nilIface
  | some c => .iface 0 (.int .i64 c)
theorem errW_none : errW none = .nilIface := rfl
theorem errW_some (c : Int) : errW (some c) = .iface 0 (.int .i64 c) := rfl

theorem info2 : (Try.prog.info? 2).map (fun i => (i.zero, i.size, i.bytes)) = some (some (.int .i64 0), 1, 8) := by kernel_rfl
theorem info22 : (Try.prog.info? 22).map (fun i => (i.zero, i.size, i.bytes)) = some (some (.slice none 0 0), 1, 24) := by kernel_rfl
theorem info94 : (Try.prog.info? 94).map (fun i => (i.zero, i.size, i.bytes)) = some (some (.agg #[(.slice none 0 0)]), 1, 24) := by kernel_rfl
-- the values' own types
def rd_L1 (xs : List (List Int)) (i : Int) : (List Int) := xs.getD i.toNat ([] : List Int)
theorem at_L1 {w : World} {A : Option Addr} {n : Nat} {xs : List (List Int)} (h : Kd.C (Kd.slice 2 (Kd.int .i64)) w A n xs) (i : Int) (h0 : 0 ≤ i) (h1 : i < n) : ∃ ad A0 c0, A = some ad ∧ w.cell? (ad.add i.toNat) = some (.slice A0 (rd_L1 xs i).length c0) ∧ (rd_L1 xs i).length ≤ c0 ∧ (Kd.int .i64).C w A0 (rd_L1 xs i).length (rd_L1 xs i) := by
  obtain ⟨ad, c, e, _, hK, hc0⟩ := Kd.C_get h ([] : List Int) i h0 h1
  have hc : ∀ j u, c[j]? = some u → w.cell? (ad.add (i.toNat * 1 + j)) = some u := hc0
  obtain ⟨A0, c0, rfl, l0, g0⟩ := hK
  exact ⟨ad, A0, c0, e, by have hq := hc 0 _ rfl; rwa [Nat.mul_one, Nat.add_zero] at hq, l0, g0⟩

/-! #### struct type 106 -/
structure S106 where
  f0 : (List Int)
def z106 : S106 := ⟨([] : List Int)⟩
def k106 : Kd S106 := Kd.iso (Kd.slice 2 (Kd.int .i64)) (fun x : S106 => x.f0)
theorem k106_heap : Kd.Heap k106 := Kd.heap_iso _ (Kd.heap_slice 2 (Kd.heap_int .i64))
theorem k106_open {w : World} {x : S106} {cs : List Value} (h : k106.K w x cs) : ∃ A0 c0, cs = [.slice A0 x.f0.length c0] ∧ x.f0.length ≤ c0 ∧ (Kd.int .i64).C w A0 x.f0.length x.f0 := by
  obtain ⟨A0, c0, rfl, l0, g0⟩ := h
  exact ⟨A0, c0, rfl, l0, g0⟩
theorem k106_openM {w : World} {base : Nat} {ok : Nat → Prop} {x : S106} {cs : List Value} (h : k106.M w base ok x cs) : ∃ v0, cs = [v0] ∧ (Kd.int .i64).R 2 w base ok v0 x.f0 := by
  obtain ⟨v0, rfl, g0⟩ := h
  exact ⟨v0, rfl, g0⟩
theorem k106_mk (w : World) (x : S106) {A0 : Option Addr} {c0 : Nat} (l0 : x.f0.length ≤ c0) (g0 : (Kd.int .i64).C w A0 x.f0.length x.f0) : k106.K w x [.slice A0 x.f0.length c0] := ⟨A0, c0, rfl, l0, g0⟩
theorem k106_mkM (w : World) (base : Nat) (ok : Nat → Prop) (x : S106) {v0 : Value} (g0 : (Kd.int .i64).R 2 w base ok v0 x.f0) : k106.M w base ok x [v0] := ⟨v0, rfl, g0⟩
theorem k106_openF {W : World} {ok : Nat → Prop} {x : S106} {cs : List Value} (h : Kd.FK k106 W ok x cs) : ∃ A0 c0, cs = [.slice A0 x.f0.length c0] ∧ x.f0.length ≤ c0 ∧ Kd.F (Kd.int .i64) W ok A0 x.f0.length x.f0 := by
  obtain ⟨A0, c0, rfl, l0, _⟩ := k106_open (Kd.FK_now h)
  exact ⟨A0, c0, rfl, l0, (fun W' hW => by obtain ⟨A0_, c0_, he, l0_, g0_⟩ := k106_open (h W' hW); injection (Option.some.inj (show some (Value.slice A0 x.f0.length c0) = some (Value.slice A0_ x.f0.length c0_) from congrArg (fun l => l[0]?) he)) with ha_ _ _; rw [ha_]; exact g0_)⟩
theorem k106_mkF (W : World) (ok : Nat → Prop) (x : S106) {A0 : Option Addr} {c0 : Nat} (l0 : x.f0.length ≤ c0) (g0 : Kd.F (Kd.int .i64) W ok A0 x.f0.length x.f0) : Kd.FK k106 W ok x [.slice A0 x.f0.length c0] := fun W2 hW => k106_mk W2 x l0 (g0 W2 hW)
def rd_T106 (xs : List S106) (i : Int) : S106 := xs.getD i.toNat z106
theorem at_T106 {w : World} {A : Option Addr} {n : Nat} {xs : List S106} (h : Kd.C k106 w A n xs) (i : Int) (h0 : 0 ≤ i) (h1 : i < n) : ∃ ad A0 c0, A = some ad ∧ w.cell? (ad.add i.toNat) = some (.slice A0 (rd_T106 xs i).f0.length c0) ∧ (rd_T106 xs i).f0.length ≤ c0 ∧ (Kd.int .i64).C w A0 (rd_T106 xs i).f0.length (rd_T106 xs i).f0 := by
  obtain ⟨ad, c, e, _, hK, hc0⟩ := Kd.C_get h z106 i h0 h1
  have hc : ∀ j u, c[j]? = some u → w.cell? (ad.add (i.toNat * 1 + j)) = some u := hc0
  obtain ⟨A0, c0, rfl, l0, g0⟩ := k106_open hK
  exact ⟨ad, A0, c0, e, by have hq := hc 0 _ rfl; rwa [Nat.mul_one, Nat.add_zero] at hq, l0, g0⟩

/-! #### struct type 94 -/
structure S94 where
  f0 : (List Int)
def z94 : S94 := ⟨([] : List Int)⟩
def k94 : Kd S94 := Kd.iso (Kd.slice 2 (Kd.int .i64)) (fun x : S94 => x.f0)
theorem k94_heap : Kd.Heap k94 := Kd.heap_iso _ (Kd.heap_slice 2 (Kd.heap_int .i64))
theorem k94_open {w : World} {x : S94} {cs : List Value} (h : k94.K w x cs) : ∃ A0 c0, cs = [.slice A0 x.f0.length c0] ∧ x.f0.length ≤ c0 ∧ (Kd.int .i64).C w A0 x.f0.length x.f0 := by
  obtain ⟨A0, c0, rfl, l0, g0⟩ := h
  exact ⟨A0, c0, rfl, l0, g0⟩
theorem k94_openM {w : World} {base : Nat} {ok : Nat → Prop} {x : S94} {cs : List Value} (h : k94.M w base ok x cs) : ∃ v0, cs = [v0] ∧ (Kd.int .i64).R 2 w base ok v0 x.f0 := by
  obtain ⟨v0, rfl, g0⟩ := h
  exact ⟨v0, rfl, g0⟩
theorem k94_mk (w : World) (x : S94) {A0 : Option Addr} {c0 : Nat} (l0 : x.f0.length ≤ c0) (g0 : (Kd.int .i64).C w A0 x.f0.length x.f0) : k94.K w x [.slice A0 x.f0.length c0] := ⟨A0, c0, rfl, l0, g0⟩
theorem k94_mkM (w : World) (base : Nat) (ok : Nat → Prop) (x : S94) {v0 : Value} (g0 : (Kd.int .i64).R 2 w base ok v0 x.f0) : k94.M w base ok x [v0] := ⟨v0, rfl, g0⟩
theorem k94_openF {W : World} {ok : Nat → Prop} {x : S94} {cs : List Value} (h : Kd.FK k94 W ok x cs) : ∃ A0 c0, cs = [.slice A0 x.f0.length c0] ∧ x.f0.length ≤ c0 ∧ Kd.F (Kd.int .i64) W ok A0 x.f0.length x.f0 := by
  obtain ⟨A0, c0, rfl, l0, _⟩ := k94_open (Kd.FK_now h)
  exact ⟨A0, c0, rfl, l0, (fun W' hW => by obtain ⟨A0_, c0_, he, l0_, g0_⟩ := k94_open (h W' hW); injection (Option.some.inj (show some (Value.slice A0 x.f0.length c0) = some (Value.slice A0_ x.f0.length c0_) from congrArg (fun l => l[0]?) he)) with ha_ _ _; rw [ha_]; exact g0_)⟩
theorem k94_mkF (W : World) (ok : Nat → Prop) (x : S94) {A0 : Option Addr} {c0 : Nat} (l0 : x.f0.length ≤ c0) (g0 : Kd.F (Kd.int .i64) W ok A0 x.f0.length x.f0) : Kd.FK k94 W ok x [.slice A0 x.f0.length c0] := fun W2 hW => k94_mk W2 x l0 (g0 W2 hW)
def rd_T94 (xs : List S94) (i : Int) : S94 := xs.getD i.toNat z94
theorem at_T94 {w : World} {A : Option Addr} {n : Nat} {xs : List S94} (h : Kd.C k94 w A n xs) (i : Int) (h0 : 0 ≤ i) (h1 : i < n) : ∃ ad A0 c0, A = some ad ∧ w.cell? (ad.add i.toNat) = some (.slice A0 (rd_T94 xs i).f0.length c0) ∧ (rd_T94 xs i).f0.length ≤ c0 ∧ (Kd.int .i64).C w A0 (rd_T94 xs i).f0.length (rd_T94 xs i).f0 := by
  obtain ⟨ad, c, e, _, hK, hc0⟩ := Kd.C_get h z94 i h0 h1
  have hc : ∀ j u, c[j]? = some u → w.cell? (ad.add (i.toNat * 1 + j)) = some u := hc0
  obtain ⟨A0, c0, rfl, l0, g0⟩ := k94_open hK
  exact ⟨ad, A0, c0, e, by have hq := hc 0 _ rfl; rwa [Nat.mul_one, Nat.add_zero] at hq, l0, g0⟩

def rd_L4 (xs : List (List S106)) (i : Int) : (List S106) := xs.getD i.toNat ([] : List S106)
theorem at_L4 {w : World} {A : Option Addr} {n : Nat} {xs : List (List S106)} (h : Kd.C (Kd.slice 106 k106) w A n xs) (i : Int) (h0 : 0 ≤ i) (h1 : i < n) : ∃ ad A0 c0, A = some ad ∧ w.cell? (ad.add i.toNat) = some (.slice A0 (rd_L4 xs i).length c0) ∧ (rd_L4 xs i).length ≤ c0 ∧ k106.C w A0 (rd_L4 xs i).length (rd_L4 xs i) := by
  obtain ⟨ad, c, e, _, hK, hc0⟩ := Kd.C_get h ([] : List S106) i h0 h1
  have hc : ∀ j u, c[j]? = some u → w.cell? (ad.add (i.toNat * 1 + j)) = some u := hc0
  obtain ⟨A0, c0, rfl, l0, g0⟩ := hK
  exact ⟨ad, A0, c0, e, by have hq := hc 0 _ rfl; rwa [Nat.mul_one, Nat.add_zero] at hq, l0, g0⟩

/-! #### struct type 53 -/
structure S53 where
  f0 : Int
  f1 : (List Int)
  f2 : (List Int)
  f3 : (List Int)
  f4 : (List Int)
  f5 : (List S106)
def z53 : S53 := ⟨(0 : Int), ([] : List Int), ([] : List Int), ([] : List Int), ([] : List Int), ([] : List S106)⟩
def k53 : Kd S53 := Kd.iso (Kd.pair (Kd.int .i64) (Kd.pair (Kd.slice 2 (Kd.int .i64)) (Kd.pair (Kd.slice 2 (Kd.int .i64)) (Kd.pair (Kd.slice 2 (Kd.int .i64)) (Kd.pair (Kd.slice 2 (Kd.int .i64)) (Kd.slice 106 k106)))))) (fun x : S53 => (x.f0, x.f1, x.f2, x.f3, x.f4, x.f5))
theorem k53_heap : Kd.Heap k53 := Kd.heap_iso _ (Kd.heap_pair (Kd.heap_int .i64) (Kd.heap_pair (Kd.heap_slice 2 (Kd.heap_int .i64)) (Kd.heap_pair (Kd.heap_slice 2 (Kd.heap_int .i64)) (Kd.heap_pair (Kd.heap_slice 2 (Kd.heap_int .i64)) (Kd.heap_pair (Kd.heap_slice 2 (Kd.heap_int .i64)) (Kd.heap_slice 106 k106_heap))))))
theorem k53_open {w : World} {x : S53} {cs : List Value} (h : k53.K w x cs) : ∃ A1 c1 A2 c2 A3 c3 A4 c4 A5 c5, cs = [.int .i64 x.f0, .slice A1 x.f1.length c1, .slice A2 x.f2.length c2, .slice A3 x.f3.length c3, .slice A4 x.f4.length c4, .slice A5 x.f5.length c5] ∧ x.f1.length ≤ c1 ∧ (Kd.int .i64).C w A1 x.f1.length x.f1 ∧ x.f2.length ≤ c2 ∧ (Kd.int .i64).C w A2 x.f2.length x.f2 ∧ x.f3.length ≤ c3 ∧ (Kd.int .i64).C w A3 x.f3.length x.f3 ∧ x.f4.length ≤ c4 ∧ (Kd.int .i64).C w A4 x.f4.length x.f4 ∧ x.f5.length ≤ c5 ∧ k106.C w A5 x.f5.length x.f5 := by
  obtain ⟨_, _, rfl, rfl, ⟨_, _, rfl, ⟨A1, c1, rfl, l1, g1⟩, ⟨_, _, rfl, ⟨A2, c2, rfl, l2, g2⟩, ⟨_, _, rfl, ⟨A3, c3, rfl, l3, g3⟩, ⟨_, _, rfl, ⟨A4, c4, rfl, l4, g4⟩, ⟨A5, c5, rfl, l5, g5⟩⟩⟩⟩⟩⟩ := h
  exact ⟨A1, c1, A2, c2, A3, c3, A4, c4, A5, c5, rfl, l1, g1, l2, g2, l3, g3, l4, g4, l5, g5⟩
theorem k53_openM {w : World} {base : Nat} {ok : Nat → Prop} {x : S53} {cs : List Value} (h : k53.M w base ok x cs) : ∃ v1 v2 v3 v4 v5, cs = [.int .i64 x.f0, v1, v2, v3, v4, v5] ∧ (Kd.int .i64).R 2 w base ok v1 x.f1 ∧ (Kd.int .i64).R 2 w base ok v2 x.f2 ∧ (Kd.int .i64).R 2 w base ok v3 x.f3 ∧ (Kd.int .i64).R 2 w base ok v4 x.f4 ∧ k106.R 106 w base ok v5 x.f5 := by
  obtain ⟨_, _, rfl, rfl, ⟨_, _, rfl, ⟨v1, rfl, g1⟩, ⟨_, _, rfl, ⟨v2, rfl, g2⟩, ⟨_, _, rfl, ⟨v3, rfl, g3⟩, ⟨_, _, rfl, ⟨v4, rfl, g4⟩, ⟨v5, rfl, g5⟩⟩⟩⟩⟩⟩ := h
  exact ⟨v1, v2, v3, v4, v5, rfl, g1, g2, g3, g4, g5⟩
theorem k53_mk (w : World) (x : S53) {A1 : Option Addr} {c1 : Nat} (l1 : x.f1.length ≤ c1) (g1 : (Kd.int .i64).C w A1 x.f1.length x.f1) {A2 : Option Addr} {c2 : Nat} (l2 : x.f2.length ≤ c2) (g2 : (Kd.int .i64).C w A2 x.f2.length x.f2) {A3 : Option Addr} {c3 : Nat} (l3 : x.f3.length ≤ c3) (g3 : (Kd.int .i64).C w A3 x.f3.length x.f3) {A4 : Option Addr} {c4 : Nat} (l4 : x.f4.length ≤ c4) (g4 : (Kd.int .i64).C w A4 x.f4.length x.f4) {A5 : Option Addr} {c5 : Nat} (l5 : x.f5.length ≤ c5) (g5 : k106.C w A5 x.f5.length x.f5) : k53.K w x [.int .i64 x.f0, .slice A1 x.f1.length c1, .slice A2 x.f2.length c2, .slice A3 x.f3.length c3, .slice A4 x.f4.length c4, .slice A5 x.f5.length c5] := ⟨[.int .i64 x.f0], [.slice A1 x.f1.length c1, .slice A2 x.f2.length c2, .slice A3 x.f3.length c3, .slice A4 x.f4.length c4, .slice A5 x.f5.length c5], rfl, rfl, ⟨[.slice A1 x.f1.length c1], [.slice A2 x.f2.length c2, .slice A3 x.f3.length c3, .slice A4 x.f4.length c4, .slice A5 x.f5.length c5], rfl, ⟨A1, c1, rfl, l1, g1⟩, ⟨[.slice A2 x.f2.length c2], [.slice A3 x.f3.length c3, .slice A4 x.f4.length c4, .slice A5 x.f5.length c5], rfl, ⟨A2, c2, rfl, l2, g2⟩, ⟨[.slice A3 x.f3.length c3], [.slice A4 x.f4.length c4, .slice A5 x.f5.length c5], rfl, ⟨A3, c3, rfl, l3, g3⟩, ⟨[.slice A4 x.f4.length c4], [.slice A5 x.f5.length c5], rfl, ⟨A4, c4, rfl, l4, g4⟩, ⟨A5, c5, rfl, l5, g5⟩⟩⟩⟩⟩⟩
theorem k53_mkM (w : World) (base : Nat) (ok : Nat → Prop) (x : S53) {v1 : Value} (g1 : (Kd.int .i64).R 2 w base ok v1 x.f1) {v2 : Value} (g2 : (Kd.int .i64).R 2 w base ok v2 x.f2) {v3 : Value} (g3 : (Kd.int .i64).R 2 w base ok v3 x.f3) {v4 : Value} (g4 : (Kd.int .i64).R 2 w base ok v4 x.f4) {v5 : Value} (g5 : k106.R 106 w base ok v5 x.f5) : k53.M w base ok x [.int .i64 x.f0, v1, v2, v3, v4, v5] := ⟨[.int .i64 x.f0], [v1, v2, v3, v4, v5], rfl, rfl, ⟨[v1], [v2, v3, v4, v5], rfl, ⟨v1, rfl, g1⟩, ⟨[v2], [v3, v4, v5], rfl, ⟨v2, rfl, g2⟩, ⟨[v3], [v4, v5], rfl, ⟨v3, rfl, g3⟩, ⟨[v4], [v5], rfl, ⟨v4, rfl, g4⟩, ⟨v5, rfl, g5⟩⟩⟩⟩⟩⟩
theorem k53_openF {W : World} {ok : Nat → Prop} {x : S53} {cs : List Value} (h : Kd.FK k53 W ok x cs) : ∃ A1 c1 A2 c2 A3 c3 A4 c4 A5 c5, cs = [.int .i64 x.f0, .slice A1 x.f1.length c1, .slice A2 x.f2.length c2, .slice A3 x.f3.length c3, .slice A4 x.f4.length c4, .slice A5 x.f5.length c5] ∧ x.f1.length ≤ c1 ∧ Kd.F (Kd.int .i64) W ok A1 x.f1.length x.f1 ∧ x.f2.length ≤ c2 ∧ Kd.F (Kd.int .i64) W ok A2 x.f2.length x.f2 ∧ x.f3.length ≤ c3 ∧ Kd.F (Kd.int .i64) W ok A3 x.f3.length x.f3 ∧ x.f4.length ≤ c4 ∧ Kd.F (Kd.int .i64) W ok A4 x.f4.length x.f4 ∧ x.f5.length ≤ c5 ∧ Kd.F k106 W ok A5 x.f5.length x.f5 := by
  obtain ⟨A1, c1, A2, c2, A3, c3, A4, c4, A5, c5, rfl, l1, _, l2, _, l3, _, l4, _, l5, _⟩ := k53_open (Kd.FK_now h)
  exact ⟨A1, c1, A2, c2, A3, c3, A4, c4, A5, c5, rfl, l1, (fun W' hW => by obtain ⟨A1_, c1_, A2_, c2_, A3_, c3_, A4_, c4_, A5_, c5_, he, l1_, g1_, l2_, g2_, l3_, g3_, l4_, g4_, l5_, g5_⟩ := k53_open (h W' hW); injection (Option.some.inj (show some (Value.slice A1 x.f1.length c1) = some (Value.slice A1_ x.f1.length c1_) from congrArg (fun l => l[1]?) he)) with ha_ _ _; rw [ha_]; exact g1_), l2, (fun W' hW => by obtain ⟨A1_, c1_, A2_, c2_, A3_, c3_, A4_, c4_, A5_, c5_, he, l1_, g1_, l2_, g2_, l3_, g3_, l4_, g4_, l5_, g5_⟩ := k53_open (h W' hW); injection (Option.some.inj (show some (Value.slice A2 x.f2.length c2) = some (Value.slice A2_ x.f2.length c2_) from congrArg (fun l => l[2]?) he)) with ha_ _ _; rw [ha_]; exact g2_), l3, (fun W' hW => by obtain ⟨A1_, c1_, A2_, c2_, A3_, c3_, A4_, c4_, A5_, c5_, he, l1_, g1_, l2_, g2_, l3_, g3_, l4_, g4_, l5_, g5_⟩ := k53_open (h W' hW); injection (Option.some.inj (show some (Value.slice A3 x.f3.length c3) = some (Value.slice A3_ x.f3.length c3_) from congrArg (fun l => l[3]?) he)) with ha_ _ _; rw [ha_]; exact g3_), l4, (fun W' hW => by obtain ⟨A1_, c1_, A2_, c2_, A3_, c3_, A4_, c4_, A5_, c5_, he, l1_, g1_, l2_, g2_, l3_, g3_, l4_, g4_, l5_, g5_⟩ := k53_open (h W' hW); injection (Option.some.inj (show some (Value.slice A4 x.f4.length c4) = some (Value.slice A4_ x.f4.length c4_) from congrArg (fun l => l[4]?) he)) with ha_ _ _; rw [ha_]; exact g4_), l5, (fun W' hW => by obtain ⟨A1_, c1_, A2_, c2_, A3_, c3_, A4_, c4_, A5_, c5_, he, l1_, g1_, l2_, g2_, l3_, g3_, l4_, g4_, l5_, g5_⟩ := k53_open (h W' hW); injection (Option.some.inj (show some (Value.slice A5 x.f5.length c5) = some (Value.slice A5_ x.f5.length c5_) from congrArg (fun l => l[5]?) he)) with ha_ _ _; rw [ha_]; exact g5_)⟩
theorem k53_mkF (W : World) (ok : Nat → Prop) (x : S53) {A1 : Option Addr} {c1 : Nat} (l1 : x.f1.length ≤ c1) (g1 : Kd.F (Kd.int .i64) W ok A1 x.f1.length x.f1) {A2 : Option Addr} {c2 : Nat} (l2 : x.f2.length ≤ c2) (g2 : Kd.F (Kd.int .i64) W ok A2 x.f2.length x.f2) {A3 : Option Addr} {c3 : Nat} (l3 : x.f3.length ≤ c3) (g3 : Kd.F (Kd.int .i64) W ok A3 x.f3.length x.f3) {A4 : Option Addr} {c4 : Nat} (l4 : x.f4.length ≤ c4) (g4 : Kd.F (Kd.int .i64) W ok A4 x.f4.length x.f4) {A5 : Option Addr} {c5 : Nat} (l5 : x.f5.length ≤ c5) (g5 : Kd.F k106 W ok A5 x.f5.length x.f5) : Kd.FK k53 W ok x [.int .i64 x.f0, .slice A1 x.f1.length c1, .slice A2 x.f2.length c2, .slice A3 x.f3.length c3, .slice A4 x.f4.length c4, .slice A5 x.f5.length c5] := fun W2 hW => k53_mk W2 x l1 (g1 W2 hW) l2 (g2 W2 hW) l3 (g3 W2 hW) l4 (g4 W2 hW) l5 (g5 W2 hW)
def rd_T53 (xs : List S53) (i : Int) : S53 := xs.getD i.toNat z53
theorem at_T53 {w : World} {A : Option Addr} {n : Nat} {xs : List S53} (h : Kd.C k53 w A n xs) (i : Int) (h0 : 0 ≤ i) (h1 : i < n) : ∃ ad A1 c1 A2 c2 A3 c3 A4 c4 A5 c5, A = some ad ∧ w.cell? (ad.add (i.toNat * 6)) = some (.int .i64 (rd_T53 xs i).f0) ∧ w.cell? ⟨(ad.add (i.toNat * 6)).block, (ad.add (i.toNat * 6)).off + 1, none⟩ = some (.slice A1 (rd_T53 xs i).f1.length c1) ∧ w.cell? ⟨(ad.add (i.toNat * 6)).block, (ad.add (i.toNat * 6)).off + 2, none⟩ = some (.slice A2 (rd_T53 xs i).f2.length c2) ∧ w.cell? ⟨(ad.add (i.toNat * 6)).block, (ad.add (i.toNat * 6)).off + 3, none⟩ = some (.slice A3 (rd_T53 xs i).f3.length c3) ∧ w.cell? ⟨(ad.add (i.toNat * 6)).block, (ad.add (i.toNat * 6)).off + 4, none⟩ = some (.slice A4 (rd_T53 xs i).f4.length c4) ∧ w.cell? ⟨(ad.add (i.toNat * 6)).block, (ad.add (i.toNat * 6)).off + 5, none⟩ = some (.slice A5 (rd_T53 xs i).f5.length c5) ∧ (rd_T53 xs i).f1.length ≤ c1 ∧ (Kd.int .i64).C w A1 (rd_T53 xs i).f1.length (rd_T53 xs i).f1 ∧ (rd_T53 xs i).f2.length ≤ c2 ∧ (Kd.int .i64).C w A2 (rd_T53 xs i).f2.length (rd_T53 xs i).f2 ∧ (rd_T53 xs i).f3.length ≤ c3 ∧ (Kd.int .i64).C w A3 (rd_T53 xs i).f3.length (rd_T53 xs i).f3 ∧ (rd_T53 xs i).f4.length ≤ c4 ∧ (Kd.int .i64).C w A4 (rd_T53 xs i).f4.length (rd_T53 xs i).f4 ∧ (rd_T53 xs i).f5.length ≤ c5 ∧ k106.C w A5 (rd_T53 xs i).f5.length (rd_T53 xs i).f5 := by
  obtain ⟨ad, c, e, _, hK, hc0⟩ := Kd.C_get h z53 i h0 h1
  have hc : ∀ j u, c[j]? = some u → w.cell? (ad.add (i.toNat * 6 + j)) = some u := hc0
  obtain ⟨A1, c1, A2, c2, A3, c3, A4, c4, A5, c5, rfl, l1, g1, l2, g2, l3, g3, l4, g4, l5, g5⟩ := k53_open hK
  exact ⟨ad, A1, c1, A2, c2, A3, c3, A4, c4, A5, c5, e, hc 0 _ rfl, by rw [← add_field _ _ 1 (by omega)]; exact hc 1 _ rfl, by rw [← add_field _ _ 2 (by omega)]; exact hc 2 _ rfl, by rw [← add_field _ _ 3 (by omega)]; exact hc 3 _ rfl, by rw [← add_field _ _ 4 (by omega)]; exact hc 4 _ rfl, by rw [← add_field _ _ 5 (by omega)]; exact hc 5 _ rfl, l1, g1, l2, g2, l3, g3, l4, g4, l5, g5⟩

end Go.Proofs.Ytngjbdijimapnad.PFnExactSameSelection
