/- Each Go function here comes to what the plain function of its name says, where that says something. Made by a program of this session, over the print. -/
import Derived.Test.YtfblodggimjoaaaPFnExactSameArrayw1
import Derived.Test.YtfblodggimjoaaaProg
namespace Go.Proofs.Ytfblodggimjoaaa.PFnExactSameArray
open Go.RowKit Go.Proofs.YtfblodggimjoaaaW.PrintWords Go.Proofs.YtfblodggimjoaaaW.PrintLast Go.Proofs.YtfblodggimjoaaaW.PrintMore
attribute [local go_sem] max2_int min2_int max_two min_two max_three min_three max_four min_four   -- for this text's walks alone
set_option linter.unusedVariables false
set_option linter.unusedSimpArgs false
abbrev oB (v : Value) (k : Nat) : Prop := some k ≠ v.ownBlock



def errW : Option Int → Value
 | none => .nilIface
 | some c => .iface 0 (.int .i64 c)
theorem errW_none : errW none = .nilIface := rfl
theorem errW_some (c : Int) : errW (some c) = .iface 0 (.int .i64 c) := rfl

theorem info2 : (Try.prog.info? 2).map (fun i => (i.zero, i.size, i.bytes)) = some (some (.int .i64 0), 1, 8) := by kernel_rfl
theorem info9 : (Try.prog.info? 9).map (fun i => (i.zero, i.size, i.bytes)) = some (some (.string ⟨#[]⟩), 1, 16) := by kernel_rfl
theorem info33 : (Try.prog.info? 33).map (fun i => (i.zero, i.size, i.bytes)) = some (some (.agg #[(.int .i64 0), (.int .i64 0), (.bool false), (.bool false), (.slice none 0 0), (.slice none 0 0), (.slice none 0 0), (.slice none 0 0), (.int .i64 0)]), 9, 128) := by kernel_rfl
theorem info64 : (Try.prog.info? 64).map (fun i => (i.zero, i.size, i.bytes)) = some (some (.agg #[(.string ⟨#[]⟩), (.int .i64 0), (.int .i64 0), (.int .i64 0), (.bool false), (.bool false), (.slice none 0 0), (.slice none 0 0), (.slice none 0 0), (.slice none 0 0), (.int .i64 0)]), 11, 152) := by kernel_rfl
-- the values' own types
def rd_L3 (xs : List (List ByteArray)) (i : Int) : (List ByteArray) := xs.getD i.toNat ([] : List ByteArray)
theorem at_L3 {w : World} {A : Option Addr} {n : Nat} {xs : List (List ByteArray)} (h : Kd.C (Kd.slice 9 Kd.string) w A n xs) (i : Int) (h0 : 0 ≤ i) (h1 : i < n) : ∃ ad A0 c0, A = some ad ∧ w.cell? (ad.add i.toNat) = some (.slice A0 (rd_L3 xs i).length c0) ∧ (rd_L3 xs i).length ≤ c0 ∧ Kd.string.C w A0 (rd_L3 xs i).length (rd_L3 xs i) := by
 obtain ⟨ad, c, e, _, hK, hc0⟩ := Kd.C_get h ([] : List ByteArray) i h0 h1
 have hc : ∀ j u, c[j]? = some u → w.cell? (ad.add (i.toNat * 1 + j)) = some u := hc0
 obtain ⟨A0, c0, rfl, l0, g0⟩ := hK
 exact ⟨ad, A0, c0, e, by have hq := hc 0 _ rfl; rwa [Nat.mul_one, Nat.add_zero] at hq, l0, g0⟩

def rd_L4 (xs : List (List Int)) (i : Int) : (List Int) := xs.getD i.toNat ([] : List Int)
theorem at_L4 {w : World} {A : Option Addr} {n : Nat} {xs : List (List Int)} (h : Kd.C (Kd.slice 2 (Kd.int .i64)) w A n xs) (i : Int) (h0 : 0 ≤ i) (h1 : i < n) : ∃ ad A0 c0, A = some ad ∧ w.cell? (ad.add i.toNat) = some (.slice A0 (rd_L4 xs i).length c0) ∧ (rd_L4 xs i).length ≤ c0 ∧ (Kd.int .i64).C w A0 (rd_L4 xs i).length (rd_L4 xs i) := by
 obtain ⟨ad, c, e, _, hK, hc0⟩ := Kd.C_get h ([] : List Int) i h0 h1
 have hc : ∀ j u, c[j]? = some u → w.cell? (ad.add (i.toNat * 1 + j)) = some u := hc0
 obtain ⟨A0, c0, rfl, l0, g0⟩ := hK
 exact ⟨ad, A0, c0, e, by have hq := hc 0 _ rfl; rwa [Nat.mul_one, Nat.add_zero] at hq, l0, g0⟩

/-! #### struct type 27, nested in itself -/
structure P91 (α : Type) where
 f0 : ByteArray
 f1 : Int
 f2 : α
structure S27 where
 f0 : Int
 f1 : Int
 f2 : Bool
 f3 : Bool
 f4 : (List ByteArray)
 f5 : (List Int)
 f6 : (List (P91 S27))
 f7 : (List S27)
 f8 : Int
abbrev S91 := P91 S27
def z27 : S27 := ⟨(0 : Int), (0 : Int), false, false, ([] : List ByteArray), ([] : List Int), ([] : List S91), ([] : List S27), (0 : Int)⟩
def G91 (d : Kd S27) : Kd S91 := Kd.iso (Kd.pair Kd.string (Kd.pair (Kd.int .i64) d)) (fun x : S91 => (x.f0, x.f1, x.f2))
theorem gmono91 : Kd.Mono G91 := Kd.mono_iso _ (Kd.mono_pair (Kd.mono_const _) (Kd.mono_pair (Kd.mono_const _) Kd.mono_id))
theorem gsub91 : Kd.Sub G91 [2, 9, 27, 91] := Kd.sub_iso _ (Kd.sub_pair (Kd.sub_const _ (by decide)) (Kd.sub_pair (Kd.sub_const _ (by decide)) Kd.sub_id))
def F27 (d : Kd S27) : Kd S27 := Kd.iso (Kd.pair (Kd.int .i64) (Kd.pair (Kd.int .i64) (Kd.pair Kd.bool (Kd.pair Kd.bool (Kd.pair (Kd.slice 9 Kd.string) (Kd.pair (Kd.slice 2 (Kd.int .i64)) (Kd.pair (Kd.slice 91 (G91 d)) (Kd.pair (Kd.slice 27 d) (Kd.int .i64))))))))) (fun x : S27 => (x.f0, x.f1, x.f2, x.f3, x.f4, x.f5, x.f6, x.f7, x.f8))
theorem mono27 : Kd.Mono F27 := Kd.mono_iso _ (Kd.mono_pair (Kd.mono_const _) (Kd.mono_pair (Kd.mono_const _) (Kd.mono_pair (Kd.mono_const _) (Kd.mono_pair (Kd.mono_const _) (Kd.mono_pair (Kd.mono_const _) (Kd.mono_pair (Kd.mono_const _) (Kd.mono_pair (Kd.mono_slice 91 gmono91) (Kd.mono_pair (Kd.mono_slice 27 Kd.mono_id) (Kd.mono_const _)))))))))
theorem sub27 : Kd.Sub F27 [2, 9, 27, 91] := Kd.sub_iso _ (Kd.sub_pair (Kd.sub_const _ (by decide)) (Kd.sub_pair (Kd.sub_const _ (by decide)) (Kd.sub_pair (Kd.sub_const _ (by decide)) (Kd.sub_pair (Kd.sub_const _ (by decide)) (Kd.sub_pair (Kd.sub_const _ (by decide)) (Kd.sub_pair (Kd.sub_const _ (by decide)) (Kd.sub_pair (Kd.sub_slice 91 (by decide) gsub91) (Kd.sub_pair (Kd.sub_slice 27 (by decide) Kd.sub_id) (Kd.sub_const _ (by decide))))))))))
theorem sz27 : ∀ n, (Kd.upto F27 9 [2, 9, 27, 91] n).sz = 9 := Kd.upto_sz (fun _ => rfl)
def k27 : Kd S27 := Kd.fix F27 9 [2, 9, 27, 91] sz27 (Kd.upto_E sub27)
theorem rows_back {α : Type} {G : Nat → Kd α} {d : Kd α} (hs : ∀ n, (G n).sz = d.sz) (hle : ∀ {n m : Nat}, n ≤ m → ∀ {w x cs}, (G n).K w x cs → (G m).K w x cs) (hb : ∀ {w x cs}, d.K w x cs → ∃ n, (G n).K w x cs) {w : World} {A : Option Addr} {m : Nat} {xs : List α} (h : d.C w A m xs) : ∃ n, (G n).C w A m xs := by
 rcases Nat.eq_zero_or_pos m with hz | hpos
 · subst hz
   exact ⟨0, h.1, h.2.1, fun hp => absurd hp (Nat.lt_irrefl 0)⟩
 obtain ⟨ad, e, hc⟩ := h.2.2 hpos
 obtain ⟨N, hN⟩ := Kd.bounded (P := fun n j => ∀ p, xs[j]? = some p → ∃ c, c.length = d.sz ∧ (G n).K w p c ∧ ∀ i u, c[i]? = some u → w.cell? (ad.add (j * d.sz + i)) = some u) (fun n m j hnm hp p hj => by
  obtain ⟨c, h1, h2, h3⟩ := hp p hj
  exact ⟨c, h1, hle hnm h2, h3⟩) xs.length (fun j hj => by
  obtain ⟨c, h1, h2, h3⟩ := hc j _ (List.getElem?_eq_getElem hj)
  obtain ⟨n, h2⟩ := hb h2
  refine ⟨n, fun p hp => ?_⟩
  rw [List.getElem?_eq_getElem hj] at hp
  injection hp with hp
  rw [← hp]
  exact ⟨c, h1, h2, h3⟩)
 refine ⟨N, h.1, h.2.1, fun _ => ⟨ad, e, fun j p hj => ?_⟩⟩
 rw [hs N]
 exact hN j (List.getElem?_eq_some_iff.1 hj).1 p hj
theorem own_back {α : Type} {G : Nat → Kd α} {d : Kd α} (hs : ∀ n, (G n).sz = d.sz) (hle : ∀ {n m : Nat}, n ≤ m → ∀ {w base ok x cs}, (G n).M w base ok x cs → (G m).M w base ok x cs) (hb : ∀ {w base ok x cs}, d.M w base ok x cs → ∃ n, (G n).M w base ok x cs) {e : Nat} {w : World} {base : Nat} {ok : Nat → Prop} {v : Value} {xs : List α} (h : d.R e w base ok v xs) : ∃ n, (G n).R e w base ok v xs := by
 obtain ⟨h0, inner, ho, hr⟩ := h
 obtain ⟨N, hN⟩ := Kd.reps_bounded (R := fun n p c => (G n).M w base (fun k => ok k ∧ some k ≠ v.ownBlock) p c) (fun n m p c hnm hp => hle hnm hp) ⟨hr.1, fun j p hj => hb (hr.2 j p hj)⟩
 refine ⟨N, h0, inner, ?_, ?_⟩
 · rw [hs N]; exact ho
 · rw [hs N]; exact hN
def k91 : Kd S91 := G91 k27
theorem n91_sz (n : Nat) : (G91 (Kd.upto F27 9 [2, 9, 27, 91] n)).sz = k91.sz := gmono91.sz _ k27 (sz27 n)
theorem n91_K {n m : Nat} (h : n ≤ m) {w : World} {x : S91} {cs : List Value} : (G91 (Kd.upto F27 9 [2, 9, 27, 91] n)).K w x cs → (G91 (Kd.upto F27 9 [2, 9, 27, 91] m)).K w x cs := gmono91.K _ _ (by rw [sz27 n, sz27 m]) (fun _ _ _ hp => Kd.upto_K_le mono27 sz27 h hp) _ _ _
theorem n91_M {n m : Nat} (h : n ≤ m) {w : World} {base : Nat} {ok : Nat → Prop} {x : S91} {cs : List Value} : (G91 (Kd.upto F27 9 [2, 9, 27, 91] n)).M w base ok x cs → (G91 (Kd.upto F27 9 [2, 9, 27, 91] m)).M w base ok x cs := gmono91.M _ _ (by rw [sz27 n, sz27 m]) (fun _ _ _ _ _ hp => Kd.upto_M_le mono27 sz27 h hp) _ _ _ _ _
theorem n91_C {n : Nat} {w : World} {A : Option Addr} {m : Nat} {xs : List S91} (h : (G91 (Kd.upto F27 9 [2, 9, 27, 91] n)).C w A m xs) : k91.C w A m xs := Kd.C_imp (d' := k91) (n91_sz n) (gmono91.K _ k27 (sz27 n) (fun w x cs hp => (⟨n, hp⟩ : ∃ n, (Kd.upto F27 9 [2, 9, 27, 91] n).K w x cs))) h
theorem n91_R {n e : Nat} {w : World} {base : Nat} {ok : Nat → Prop} {v : Value} {xs : List S91} (h : (G91 (Kd.upto F27 9 [2, 9, 27, 91] n)).R e w base ok v xs) : k91.R e w base ok v xs := Kd.R_imp (d' := k91) (n91_sz n) (gmono91.M _ k27 (sz27 n) (fun w base ok x cs hp => (⟨n, hp⟩ : ∃ n, (Kd.upto F27 9 [2, 9, 27, 91] n).M w base ok x cs))) h
theorem n91_C_le {n m : Nat} (hnm : n ≤ m) {w : World} {A : Option Addr} {l : Nat} {xs : List S91} (h : (G91 (Kd.upto F27 9 [2, 9, 27, 91] n)).C w A l xs) : (G91 (Kd.upto F27 9 [2, 9, 27, 91] m)).C w A l xs := Kd.C_imp ((n91_sz n).trans (n91_sz m).symm) (fun _ _ _ hp => n91_K hnm hp) h
theorem n91_R_le {n m : Nat} (hnm : n ≤ m) {e : Nat} {w : World} {base : Nat} {ok : Nat → Prop} {v : Value} {xs : List S91} (h : (G91 (Kd.upto F27 9 [2, 9, 27, 91] n)).R e w base ok v xs) : (G91 (Kd.upto F27 9 [2, 9, 27, 91] m)).R e w base ok v xs := Kd.R_imp ((n91_sz n).trans (n91_sz m).symm) (fun _ _ _ _ _ hp => n91_M hnm hp) h
theorem n91_C_back {w : World} {A : Option Addr} {m : Nat} {xs : List S91} (h : k91.C w A m xs) : ∃ n, (G91 (Kd.upto F27 9 [2, 9, 27, 91] n)).C w A m xs := rows_back n91_sz n91_K (fun {w x cs} h => by
 obtain ⟨_, _, rfl, h0, ⟨_, _, rfl, h1, ⟨n, hT⟩⟩⟩ := h
 exact ⟨n, ⟨_, _, rfl, h0, ⟨_, _, rfl, h1, hT⟩⟩⟩) h
theorem n91_R_back {e : Nat} {w : World} {base : Nat} {ok : Nat → Prop} {v : Value} {xs : List S91} (h : k91.R e w base ok v xs) : ∃ n, (G91 (Kd.upto F27 9 [2, 9, 27, 91] n)).R e w base ok v xs := own_back n91_sz n91_M (fun {w base ok x cs} h => by
 obtain ⟨_, _, rfl, h0, ⟨_, _, rfl, h1, ⟨n, hT⟩⟩⟩ := h
 exact ⟨n, ⟨_, _, rfl, h0, ⟨_, _, rfl, h1, hT⟩⟩⟩) h
theorem k27_open {w : World} {x : S27} {cs : List Value} (h : k27.K w x cs) : ∃ A4 c4 A5 c5 A6 c6 A7 c7, cs = [.int .i64 x.f0, .int .i64 x.f1, .bool x.f2, .bool x.f3, .slice A4 x.f4.length c4, .slice A5 x.f5.length c5, .slice A6 x.f6.length c6, .slice A7 x.f7.length c7, .int .i64 x.f8] ∧ x.f4.length ≤ c4 ∧ Kd.string.C w A4 x.f4.length x.f4 ∧ x.f5.length ≤ c5 ∧ (Kd.int .i64).C w A5 x.f5.length x.f5 ∧ x.f6.length ≤ c6 ∧ k91.C w A6 x.f6.length x.f6 ∧ x.f7.length ≤ c7 ∧ k27.C w A7 x.f7.length x.f7 := by
 obtain ⟨n, h⟩ := h
 cases n with
 | zero => exact h.elim
 | succ n =>
  obtain ⟨_, _, rfl, rfl, ⟨_, _, rfl, rfl, ⟨_, _, rfl, rfl, ⟨_, _, rfl, rfl, ⟨_, _, rfl, ⟨A4, c4, rfl, l4, g4⟩, ⟨_, _, rfl, ⟨A5, c5, rfl, l5, g5⟩, ⟨_, _, rfl, ⟨A6, c6, rfl, l6, g6⟩, ⟨_, _, rfl, ⟨A7, c7, rfl, l7, g7⟩, rfl⟩⟩⟩⟩⟩⟩⟩⟩ := h
  exact ⟨A4, c4, A5, c5, A6, c6, A7, c7, rfl, l4, g4, l5, g5, l6, n91_C g6, l7, Kd.fix_C g7⟩
theorem k27_openM {w : World} {base : Nat} {ok : Nat → Prop} {x : S27} {cs : List Value} (h : k27.M w base ok x cs) : ∃ v4 v5 v6 v7, cs = [.int .i64 x.f0, .int .i64 x.f1, .bool x.f2, .bool x.f3, v4, v5, v6, v7, .int .i64 x.f8] ∧ Kd.string.R 9 w base ok v4 x.f4 ∧ (Kd.int .i64).R 2 w base ok v5 x.f5 ∧ k91.R 91 w base ok v6 x.f6 ∧ k27.R 27 w base ok v7 x.f7 := by
 obtain ⟨n, h⟩ := h
 cases n with
 | zero => exact h.elim
 | succ n =>
  obtain ⟨_, _, rfl, rfl, ⟨_, _, rfl, rfl, ⟨_, _, rfl, rfl, ⟨_, _, rfl, rfl, ⟨_, _, rfl, ⟨v4, rfl, g4⟩, ⟨_, _, rfl, ⟨v5, rfl, g5⟩, ⟨_, _, rfl, ⟨v6, rfl, g6⟩, ⟨_, _, rfl, ⟨v7, rfl, g7⟩, rfl⟩⟩⟩⟩⟩⟩⟩⟩ := h
  exact ⟨v4, v5, v6, v7, rfl, g4, g5, n91_R g6, Kd.fix_R g7⟩
theorem k27_mk (w : World) (x : S27) {A4 : Option Addr} {c4 : Nat} (l4 : x.f4.length ≤ c4) (g4 : Kd.string.C w A4 x.f4.length x.f4) {A5 : Option Addr} {c5 : Nat} (l5 : x.f5.length ≤ c5) (g5 : (Kd.int .i64).C w A5 x.f5.length x.f5) {A6 : Option Addr} {c6 : Nat} (l6 : x.f6.length ≤ c6) (g6 : k91.C w A6 x.f6.length x.f6) {A7 : Option Addr} {c7 : Nat} (l7 : x.f7.length ≤ c7) (g7 : k27.C w A7 x.f7.length x.f7) : k27.K w x [.int .i64 x.f0, .int .i64 x.f1, .bool x.f2, .bool x.f3, .slice A4 x.f4.length c4, .slice A5 x.f5.length c5, .slice A6 x.f6.length c6, .slice A7 x.f7.length c7, .int .i64 x.f8] := by
 obtain ⟨n6, q6⟩ := n91_C_back g6
 obtain ⟨n7, q7⟩ := Kd.fix_C_back mono27 g7
 have r6 := n91_C_le (show n6 ≤ (max n6 n7) by omega) q6
 have r7 := Kd.upto_C_le mono27 sz27 (show n7 ≤ (max n6 n7) by omega) q7
 exact ⟨(max n6 n7) + 1, ⟨[.int .i64 x.f0], [.int .i64 x.f1, .bool x.f2, .bool x.f3, .slice A4 x.f4.length c4, .slice A5 x.f5.length c5, .slice A6 x.f6.length c6, .slice A7 x.f7.length c7, .int .i64 x.f8], rfl, rfl, ⟨[.int .i64 x.f1], [.bool x.f2, .bool x.f3, .slice A4 x.f4.length c4, .slice A5 x.f5.length c5, .slice A6 x.f6.length c6, .slice A7 x.f7.length c7, .int .i64 x.f8], rfl, rfl, ⟨[.bool x.f2], [.bool x.f3, .slice A4 x.f4.length c4, .slice A5 x.f5.length c5, .slice A6 x.f6.length c6, .slice A7 x.f7.length c7, .int .i64 x.f8], rfl, rfl, ⟨[.bool x.f3], [.slice A4 x.f4.length c4, .slice A5 x.f5.length c5, .slice A6 x.f6.length c6, .slice A7 x.f7.length c7, .int .i64 x.f8], rfl, rfl, ⟨[.slice A4 x.f4.length c4], [.slice A5 x.f5.length c5, .slice A6 x.f6.length c6, .slice A7 x.f7.length c7, .int .i64 x.f8], rfl, ⟨A4, c4, rfl, l4, g4⟩, ⟨[.slice A5 x.f5.length c5], [.slice A6 x.f6.length c6, .slice A7 x.f7.length c7, .int .i64 x.f8], rfl, ⟨A5, c5, rfl, l5, g5⟩, ⟨[.slice A6 x.f6.length c6], [.slice A7 x.f7.length c7, .int .i64 x.f8], rfl, ⟨A6, c6, rfl, l6, r6⟩, ⟨[.slice A7 x.f7.length c7], [.int .i64 x.f8], rfl, ⟨A7, c7, rfl, l7, r7⟩, rfl⟩⟩⟩⟩⟩⟩⟩⟩⟩
theorem k27_mkM (w : World) (base : Nat) (ok : Nat → Prop) (x : S27) {v4 : Value} (g4 : Kd.string.R 9 w base ok v4 x.f4) {v5 : Value} (g5 : (Kd.int .i64).R 2 w base ok v5 x.f5) {v6 : Value} (g6 : k91.R 91 w base ok v6 x.f6) {v7 : Value} (g7 : k27.R 27 w base ok v7 x.f7) : k27.M w base ok x [.int .i64 x.f0, .int .i64 x.f1, .bool x.f2, .bool x.f3, v4, v5, v6, v7, .int .i64 x.f8] := by
 obtain ⟨n6, q6⟩ := n91_R_back g6
 obtain ⟨n7, q7⟩ := Kd.fix_R_back mono27 g7
 have r6 := n91_R_le (show n6 ≤ (max n6 n7) by omega) q6
 have r7 := Kd.upto_R_le mono27 sz27 (show n7 ≤ (max n6 n7) by omega) q7
 exact ⟨(max n6 n7) + 1, ⟨[.int .i64 x.f0], [.int .i64 x.f1, .bool x.f2, .bool x.f3, v4, v5, v6, v7, .int .i64 x.f8], rfl, rfl, ⟨[.int .i64 x.f1], [.bool x.f2, .bool x.f3, v4, v5, v6, v7, .int .i64 x.f8], rfl, rfl, ⟨[.bool x.f2], [.bool x.f3, v4, v5, v6, v7, .int .i64 x.f8], rfl, rfl, ⟨[.bool x.f3], [v4, v5, v6, v7, .int .i64 x.f8], rfl, rfl, ⟨[v4], [v5, v6, v7, .int .i64 x.f8], rfl, ⟨v4, rfl, g4⟩, ⟨[v5], [v6, v7, .int .i64 x.f8], rfl, ⟨v5, rfl, g5⟩, ⟨[v6], [v7, .int .i64 x.f8], rfl, ⟨v6, rfl, r6⟩, ⟨[v7], [.int .i64 x.f8], rfl, ⟨v7, rfl, r7⟩, rfl⟩⟩⟩⟩⟩⟩⟩⟩⟩
def rd_T27 (xs : List S27) (i : Int) : S27 := xs.getD i.toNat z27
theorem at_T27 {w : World} {A : Option Addr} {n : Nat} {xs : List S27} (h : Kd.C k27 w A n xs) (i : Int) (h0 : 0 ≤ i) (h1 : i < n) : ∃ ad A4 c4 A5 c5 A6 c6 A7 c7, A = some ad ∧ w.cell? (ad.add (i.toNat * 9)) = some (.int .i64 (rd_T27 xs i).f0) ∧ w.cell? ⟨(ad.add (i.toNat * 9)).block, (ad.add (i.toNat * 9)).off + 1, none⟩ = some (.int .i64 (rd_T27 xs i).f1) ∧ w.cell? ⟨(ad.add (i.toNat * 9)).block, (ad.add (i.toNat * 9)).off + 2, none⟩ = some (.bool (rd_T27 xs i).f2) ∧ w.cell? ⟨(ad.add (i.toNat * 9)).block, (ad.add (i.toNat * 9)).off + 3, none⟩ = some (.bool (rd_T27 xs i).f3) ∧ w.cell? ⟨(ad.add (i.toNat * 9)).block, (ad.add (i.toNat * 9)).off + 4, none⟩ = some (.slice A4 (rd_T27 xs i).f4.length c4) ∧ w.cell? ⟨(ad.add (i.toNat * 9)).block, (ad.add (i.toNat * 9)).off + 5, none⟩ = some (.slice A5 (rd_T27 xs i).f5.length c5) ∧ w.cell? ⟨(ad.add (i.toNat * 9)).block, (ad.add (i.toNat * 9)).off + 6, none⟩ = some (.slice A6 (rd_T27 xs i).f6.length c6) ∧ w.cell? ⟨(ad.add (i.toNat * 9)).block, (ad.add (i.toNat * 9)).off + 7, none⟩ = some (.slice A7 (rd_T27 xs i).f7.length c7) ∧ w.cell? ⟨(ad.add (i.toNat * 9)).block, (ad.add (i.toNat * 9)).off + 8, none⟩ = some (.int .i64 (rd_T27 xs i).f8) ∧ (rd_T27 xs i).f4.length ≤ c4 ∧ Kd.string.C w A4 (rd_T27 xs i).f4.length (rd_T27 xs i).f4 ∧ (rd_T27 xs i).f5.length ≤ c5 ∧ (Kd.int .i64).C w A5 (rd_T27 xs i).f5.length (rd_T27 xs i).f5 ∧ (rd_T27 xs i).f6.length ≤ c6 ∧ k91.C w A6 (rd_T27 xs i).f6.length (rd_T27 xs i).f6 ∧ (rd_T27 xs i).f7.length ≤ c7 ∧ k27.C w A7 (rd_T27 xs i).f7.length (rd_T27 xs i).f7 := by
 obtain ⟨ad, c, e, _, hK, hc0⟩ := Kd.C_get h z27 i h0 h1
 have hc : ∀ j u, c[j]? = some u → w.cell? (ad.add (i.toNat * 9 + j)) = some u := hc0
 obtain ⟨A4, c4, A5, c5, A6, c6, A7, c7, rfl, l4, g4, l5, g5, l6, g6, l7, g7⟩ := k27_open hK
 exact ⟨ad, A4, c4, A5, c5, A6, c6, A7, c7, e, hc 0 _ rfl, by rw [← add_field _ _ 1 (by omega)]; exact hc 1 _ rfl, by rw [← add_field _ _ 2 (by omega)]; exact hc 2 _ rfl, by rw [← add_field _ _ 3 (by omega)]; exact hc 3 _ rfl, by rw [← add_field _ _ 4 (by omega)]; exact hc 4 _ rfl, by rw [← add_field _ _ 5 (by omega)]; exact hc 5 _ rfl, by rw [← add_field _ _ 6 (by omega)]; exact hc 6 _ rfl, by rw [← add_field _ _ 7 (by omega)]; exact hc 7 _ rfl, by rw [← add_field _ _ 8 (by omega)]; exact hc 8 _ rfl, l4, g4, l5, g5, l6, g6, l7, g7⟩

/-! #### struct type 91 -/
def z91 : S91 := ⟨(⟨#[]⟩ : ByteArray), (0 : Int), z27⟩
theorem k91_open {w : World} {x : S91} {cs : List Value} (h : k91.K w x cs) : ∃ A6 c6 A7 c7 A8 c8 A9 c9, cs = [.string x.f0, .int .i64 x.f1, .int .i64 x.f2.f0, .int .i64 x.f2.f1, .bool x.f2.f2, .bool x.f2.f3, .slice A6 x.f2.f4.length c6, .slice A7 x.f2.f5.length c7, .slice A8 x.f2.f6.length c8, .slice A9 x.f2.f7.length c9, .int .i64 x.f2.f8] ∧ x.f2.f4.length ≤ c6 ∧ Kd.string.C w A6 x.f2.f4.length x.f2.f4 ∧ x.f2.f5.length ≤ c7 ∧ (Kd.int .i64).C w A7 x.f2.f5.length x.f2.f5 ∧ x.f2.f6.length ≤ c8 ∧ k91.C w A8 x.f2.f6.length x.f2.f6 ∧ x.f2.f7.length ≤ c9 ∧ k27.C w A9 x.f2.f7.length x.f2.f7 := by
 obtain ⟨_, _, rfl, rfl, ⟨_, _, rfl, rfl, s2⟩⟩ := h
 obtain ⟨A6, c6, A7, c7, A8, c8, A9, c9, rfl, l6, g6, l7, g7, l8, g8, l9, g9⟩ := k27_open s2
 exact ⟨A6, c6, A7, c7, A8, c8, A9, c9, rfl, l6, g6, l7, g7, l8, g8, l9, g9⟩
theorem k91_openM {w : World} {base : Nat} {ok : Nat → Prop} {x : S91} {cs : List Value} (h : k91.M w base ok x cs) : ∃ v6 v7 v8 v9, cs = [.string x.f0, .int .i64 x.f1, .int .i64 x.f2.f0, .int .i64 x.f2.f1, .bool x.f2.f2, .bool x.f2.f3, v6, v7, v8, v9, .int .i64 x.f2.f8] ∧ Kd.string.R 9 w base ok v6 x.f2.f4 ∧ (Kd.int .i64).R 2 w base ok v7 x.f2.f5 ∧ k91.R 91 w base ok v8 x.f2.f6 ∧ k27.R 27 w base ok v9 x.f2.f7 := by
 obtain ⟨_, _, rfl, rfl, ⟨_, _, rfl, rfl, s2⟩⟩ := h
 obtain ⟨v6, v7, v8, v9, rfl, g6, g7, g8, g9⟩ := k27_openM s2
 exact ⟨v6, v7, v8, v9, rfl, g6, g7, g8, g9⟩
theorem k91_mk (w : World) (x : S91) {A6 : Option Addr} {c6 : Nat} (l6 : x.f2.f4.length ≤ c6) (g6 : Kd.string.C w A6 x.f2.f4.length x.f2.f4) {A7 : Option Addr} {c7 : Nat} (l7 : x.f2.f5.length ≤ c7) (g7 : (Kd.int .i64).C w A7 x.f2.f5.length x.f2.f5) {A8 : Option Addr} {c8 : Nat} (l8 : x.f2.f6.length ≤ c8) (g8 : k91.C w A8 x.f2.f6.length x.f2.f6) {A9 : Option Addr} {c9 : Nat} (l9 : x.f2.f7.length ≤ c9) (g9 : k27.C w A9 x.f2.f7.length x.f2.f7) : k91.K w x [.string x.f0, .int .i64 x.f1, .int .i64 x.f2.f0, .int .i64 x.f2.f1, .bool x.f2.f2, .bool x.f2.f3, .slice A6 x.f2.f4.length c6, .slice A7 x.f2.f5.length c7, .slice A8 x.f2.f6.length c8, .slice A9 x.f2.f7.length c9, .int .i64 x.f2.f8] := ⟨[.string x.f0], [.int .i64 x.f1, .int .i64 x.f2.f0, .int .i64 x.f2.f1, .bool x.f2.f2, .bool x.f2.f3, .slice A6 x.f2.f4.length c6, .slice A7 x.f2.f5.length c7, .slice A8 x.f2.f6.length c8, .slice A9 x.f2.f7.length c9, .int .i64 x.f2.f8], rfl, rfl, ⟨[.int .i64 x.f1], [.int .i64 x.f2.f0, .int .i64 x.f2.f1, .bool x.f2.f2, .bool x.f2.f3, .slice A6 x.f2.f4.length c6, .slice A7 x.f2.f5.length c7, .slice A8 x.f2.f6.length c8, .slice A9 x.f2.f7.length c9, .int .i64 x.f2.f8], rfl, rfl, (k27_mk w x.f2 l6 g6 l7 g7 l8 g8 l9 g9)⟩⟩
theorem k91_mkM (w : World) (base : Nat) (ok : Nat → Prop) (x : S91) {v6 : Value} (g6 : Kd.string.R 9 w base ok v6 x.f2.f4) {v7 : Value} (g7 : (Kd.int .i64).R 2 w base ok v7 x.f2.f5) {v8 : Value} (g8 : k91.R 91 w base ok v8 x.f2.f6) {v9 : Value} (g9 : k27.R 27 w base ok v9 x.f2.f7) : k91.M w base ok x [.string x.f0, .int .i64 x.f1, .int .i64 x.f2.f0, .int .i64 x.f2.f1, .bool x.f2.f2, .bool x.f2.f3, v6, v7, v8, v9, .int .i64 x.f2.f8] := ⟨[.string x.f0], [.int .i64 x.f1, .int .i64 x.f2.f0, .int .i64 x.f2.f1, .bool x.f2.f2, .bool x.f2.f3, v6, v7, v8, v9, .int .i64 x.f2.f8], rfl, rfl, ⟨[.int .i64 x.f1], [.int .i64 x.f2.f0, .int .i64 x.f2.f1, .bool x.f2.f2, .bool x.f2.f3, v6, v7, v8, v9, .int .i64 x.f2.f8], rfl, rfl, (k27_mkM w base ok x.f2 g6 g7 g8 g9)⟩⟩
def rd_T91 (xs : List S91) (i : Int) : S91 := xs.getD i.toNat z91
theorem at_T91 {w : World} {A : Option Addr} {n : Nat} {xs : List S91} (h : Kd.C k91 w A n xs) (i : Int) (h0 : 0 ≤ i) (h1 : i < n) : ∃ ad A6 c6 A7 c7 A8 c8 A9 c9, A = some ad ∧ w.cell? (ad.add (i.toNat * 11)) = some (.string (rd_T91 xs i).f0) ∧ w.cell? ⟨(ad.add (i.toNat * 11)).block, (ad.add (i.toNat * 11)).off + 1, none⟩ = some (.int .i64 (rd_T91 xs i).f1) ∧ w.cell? ⟨(ad.add (i.toNat * 11)).block, (ad.add (i.toNat * 11)).off + 2, none⟩ = some (.int .i64 (rd_T91 xs i).f2.f0) ∧ w.cell? ⟨(ad.add (i.toNat * 11)).block, (ad.add (i.toNat * 11)).off + 3, none⟩ = some (.int .i64 (rd_T91 xs i).f2.f1) ∧ w.cell? ⟨(ad.add (i.toNat * 11)).block, (ad.add (i.toNat * 11)).off + 4, none⟩ = some (.bool (rd_T91 xs i).f2.f2) ∧ w.cell? ⟨(ad.add (i.toNat * 11)).block, (ad.add (i.toNat * 11)).off + 5, none⟩ = some (.bool (rd_T91 xs i).f2.f3) ∧ w.cell? ⟨(ad.add (i.toNat * 11)).block, (ad.add (i.toNat * 11)).off + 6, none⟩ = some (.slice A6 (rd_T91 xs i).f2.f4.length c6) ∧ w.cell? ⟨(ad.add (i.toNat * 11)).block, (ad.add (i.toNat * 11)).off + 7, none⟩ = some (.slice A7 (rd_T91 xs i).f2.f5.length c7) ∧ w.cell? ⟨(ad.add (i.toNat * 11)).block, (ad.add (i.toNat * 11)).off + 8, none⟩ = some (.slice A8 (rd_T91 xs i).f2.f6.length c8) ∧ w.cell? ⟨(ad.add (i.toNat * 11)).block, (ad.add (i.toNat * 11)).off + 9, none⟩ = some (.slice A9 (rd_T91 xs i).f2.f7.length c9) ∧ w.cell? ⟨(ad.add (i.toNat * 11)).block, (ad.add (i.toNat * 11)).off + 10, none⟩ = some (.int .i64 (rd_T91 xs i).f2.f8) ∧ (rd_T91 xs i).f2.f4.length ≤ c6 ∧ Kd.string.C w A6 (rd_T91 xs i).f2.f4.length (rd_T91 xs i).f2.f4 ∧ (rd_T91 xs i).f2.f5.length ≤ c7 ∧ (Kd.int .i64).C w A7 (rd_T91 xs i).f2.f5.length (rd_T91 xs i).f2.f5 ∧ (rd_T91 xs i).f2.f6.length ≤ c8 ∧ k91.C w A8 (rd_T91 xs i).f2.f6.length (rd_T91 xs i).f2.f6 ∧ (rd_T91 xs i).f2.f7.length ≤ c9 ∧ k27.C w A9 (rd_T91 xs i).f2.f7.length (rd_T91 xs i).f2.f7 := by
 obtain ⟨ad, c, e, _, hK, hc0⟩ := Kd.C_get h z91 i h0 h1
 have hc : ∀ j u, c[j]? = some u → w.cell? (ad.add (i.toNat * 11 + j)) = some u := hc0
 obtain ⟨A6, c6, A7, c7, A8, c8, A9, c9, rfl, l6, g6, l7, g7, l8, g8, l9, g9⟩ := k91_open hK
 exact ⟨ad, A6, c6, A7, c7, A8, c8, A9, c9, e, hc 0 _ rfl, by rw [← add_field _ _ 1 (by omega)]; exact hc 1 _ rfl, by rw [← add_field _ _ 2 (by omega)]; exact hc 2 _ rfl, by rw [← add_field _ _ 3 (by omega)]; exact hc 3 _ rfl, by rw [← add_field _ _ 4 (by omega)]; exact hc 4 _ rfl, by rw [← add_field _ _ 5 (by omega)]; exact hc 5 _ rfl, by rw [← add_field _ _ 6 (by omega)]; exact hc 6 _ rfl, by rw [← add_field _ _ 7 (by omega)]; exact hc 7 _ rfl, by rw [← add_field _ _ 8 (by omega)]; exact hc 8 _ rfl, by rw [← add_field _ _ 9 (by omega)]; exact hc 9 _ rfl, by rw [← add_field _ _ 10 (by omega)]; exact hc 10 _ rfl, l6, g6, l7, g7, l8, g8, l9, g9⟩

/-! #### struct type 33, nested in itself -/
structure P64 (α : Type) where
 f0 : ByteArray
 f1 : Int
 f2 : α
structure S33 where
 f0 : Int
 f1 : Int
 f2 : Bool
 f3 : Bool
 f4 : (List ByteArray)
 f5 : (List Int)
 f6 : (List (P64 S33))
 f7 : (List S33)
 f8 : Int
abbrev S64 := P64 S33
def z33 : S33 := ⟨(0 : Int), (0 : Int), false, false, ([] : List ByteArray), ([] : List Int), ([] : List S64), ([] : List S33), (0 : Int)⟩
def G64 (d : Kd S33) : Kd S64 := Kd.iso (Kd.pair Kd.string (Kd.pair (Kd.int .i64) d)) (fun x : S64 => (x.f0, x.f1, x.f2))
theorem gmono64 : Kd.Mono G64 := Kd.mono_iso _ (Kd.mono_pair (Kd.mono_const _) (Kd.mono_pair (Kd.mono_const _) Kd.mono_id))
theorem gsub64 : Kd.Sub G64 [2, 9, 33, 64] := Kd.sub_iso _ (Kd.sub_pair (Kd.sub_const _ (by decide)) (Kd.sub_pair (Kd.sub_const _ (by decide)) Kd.sub_id))
def F33 (d : Kd S33) : Kd S33 := Kd.iso (Kd.pair (Kd.int .i64) (Kd.pair (Kd.int .i64) (Kd.pair Kd.bool (Kd.pair Kd.bool (Kd.pair (Kd.slice 9 Kd.string) (Kd.pair (Kd.slice 2 (Kd.int .i64)) (Kd.pair (Kd.slice 64 (G64 d)) (Kd.pair (Kd.slice 33 d) (Kd.int .i64))))))))) (fun x : S33 => (x.f0, x.f1, x.f2, x.f3, x.f4, x.f5, x.f6, x.f7, x.f8))
theorem mono33 : Kd.Mono F33 := Kd.mono_iso _ (Kd.mono_pair (Kd.mono_const _) (Kd.mono_pair (Kd.mono_const _) (Kd.mono_pair (Kd.mono_const _) (Kd.mono_pair (Kd.mono_const _) (Kd.mono_pair (Kd.mono_const _) (Kd.mono_pair (Kd.mono_const _) (Kd.mono_pair (Kd.mono_slice 64 gmono64) (Kd.mono_pair (Kd.mono_slice 33 Kd.mono_id) (Kd.mono_const _)))))))))
theorem sub33 : Kd.Sub F33 [2, 9, 33, 64] := Kd.sub_iso _ (Kd.sub_pair (Kd.sub_const _ (by decide)) (Kd.sub_pair (Kd.sub_const _ (by decide)) (Kd.sub_pair (Kd.sub_const _ (by decide)) (Kd.sub_pair (Kd.sub_const _ (by decide)) (Kd.sub_pair (Kd.sub_const _ (by decide)) (Kd.sub_pair (Kd.sub_const _ (by decide)) (Kd.sub_pair (Kd.sub_slice 64 (by decide) gsub64) (Kd.sub_pair (Kd.sub_slice 33 (by decide) Kd.sub_id) (Kd.sub_const _ (by decide))))))))))
theorem sz33 : ∀ n, (Kd.upto F33 9 [2, 9, 33, 64] n).sz = 9 := Kd.upto_sz (fun _ => rfl)
def k33 : Kd S33 := Kd.fix F33 9 [2, 9, 33, 64] sz33 (Kd.upto_E sub33)
def k64 : Kd S64 := G64 k33
theorem n64_sz (n : Nat) : (G64 (Kd.upto F33 9 [2, 9, 33, 64] n)).sz = k64.sz := gmono64.sz _ k33 (sz33 n)
theorem n64_K {n m : Nat} (h : n ≤ m) {w : World} {x : S64} {cs : List Value} : (G64 (Kd.upto F33 9 [2, 9, 33, 64] n)).K w x cs → (G64 (Kd.upto F33 9 [2, 9, 33, 64] m)).K w x cs := gmono64.K _ _ (by rw [sz33 n, sz33 m]) (fun _ _ _ hp => Kd.upto_K_le mono33 sz33 h hp) _ _ _
theorem n64_M {n m : Nat} (h : n ≤ m) {w : World} {base : Nat} {ok : Nat → Prop} {x : S64} {cs : List Value} : (G64 (Kd.upto F33 9 [2, 9, 33, 64] n)).M w base ok x cs → (G64 (Kd.upto F33 9 [2, 9, 33, 64] m)).M w base ok x cs := gmono64.M _ _ (by rw [sz33 n, sz33 m]) (fun _ _ _ _ _ hp => Kd.upto_M_le mono33 sz33 h hp) _ _ _ _ _
theorem n64_C {n : Nat} {w : World} {A : Option Addr} {m : Nat} {xs : List S64} (h : (G64 (Kd.upto F33 9 [2, 9, 33, 64] n)).C w A m xs) : k64.C w A m xs := Kd.C_imp (d' := k64) (n64_sz n) (gmono64.K _ k33 (sz33 n) (fun w x cs hp => (⟨n, hp⟩ : ∃ n, (Kd.upto F33 9 [2, 9, 33, 64] n).K w x cs))) h
theorem n64_R {n e : Nat} {w : World} {base : Nat} {ok : Nat → Prop} {v : Value} {xs : List S64} (h : (G64 (Kd.upto F33 9 [2, 9, 33, 64] n)).R e w base ok v xs) : k64.R e w base ok v xs := Kd.R_imp (d' := k64) (n64_sz n) (gmono64.M _ k33 (sz33 n) (fun w base ok x cs hp => (⟨n, hp⟩ : ∃ n, (Kd.upto F33 9 [2, 9, 33, 64] n).M w base ok x cs))) h
theorem n64_C_le {n m : Nat} (hnm : n ≤ m) {w : World} {A : Option Addr} {l : Nat} {xs : List S64} (h : (G64 (Kd.upto F33 9 [2, 9, 33, 64] n)).C w A l xs) : (G64 (Kd.upto F33 9 [2, 9, 33, 64] m)).C w A l xs := Kd.C_imp ((n64_sz n).trans (n64_sz m).symm) (fun _ _ _ hp => n64_K hnm hp) h
theorem n64_R_le {n m : Nat} (hnm : n ≤ m) {e : Nat} {w : World} {base : Nat} {ok : Nat → Prop} {v : Value} {xs : List S64} (h : (G64 (Kd.upto F33 9 [2, 9, 33, 64] n)).R e w base ok v xs) : (G64 (Kd.upto F33 9 [2, 9, 33, 64] m)).R e w base ok v xs := Kd.R_imp ((n64_sz n).trans (n64_sz m).symm) (fun _ _ _ _ _ hp => n64_M hnm hp) h
theorem n64_C_back {w : World} {A : Option Addr} {m : Nat} {xs : List S64} (h : k64.C w A m xs) : ∃ n, (G64 (Kd.upto F33 9 [2, 9, 33, 64] n)).C w A m xs := rows_back n64_sz n64_K (fun {w x cs} h => by
 obtain ⟨_, _, rfl, h0, ⟨_, _, rfl, h1, ⟨n, hT⟩⟩⟩ := h
 exact ⟨n, ⟨_, _, rfl, h0, ⟨_, _, rfl, h1, hT⟩⟩⟩) h
theorem n64_R_back {e : Nat} {w : World} {base : Nat} {ok : Nat → Prop} {v : Value} {xs : List S64} (h : k64.R e w base ok v xs) : ∃ n, (G64 (Kd.upto F33 9 [2, 9, 33, 64] n)).R e w base ok v xs := own_back n64_sz n64_M (fun {w base ok x cs} h => by
 obtain ⟨_, _, rfl, h0, ⟨_, _, rfl, h1, ⟨n, hT⟩⟩⟩ := h
 exact ⟨n, ⟨_, _, rfl, h0, ⟨_, _, rfl, h1, hT⟩⟩⟩) h
theorem k33_open {w : World} {x : S33} {cs : List Value} (h : k33.K w x cs) : ∃ A4 c4 A5 c5 A6 c6 A7 c7, cs = [.int .i64 x.f0, .int .i64 x.f1, .bool x.f2, .bool x.f3, .slice A4 x.f4.length c4, .slice A5 x.f5.length c5, .slice A6 x.f6.length c6, .slice A7 x.f7.length c7, .int .i64 x.f8] ∧ x.f4.length ≤ c4 ∧ Kd.string.C w A4 x.f4.length x.f4 ∧ x.f5.length ≤ c5 ∧ (Kd.int .i64).C w A5 x.f5.length x.f5 ∧ x.f6.length ≤ c6 ∧ k64.C w A6 x.f6.length x.f6 ∧ x.f7.length ≤ c7 ∧ k33.C w A7 x.f7.length x.f7 := by
 obtain ⟨n, h⟩ := h
 cases n with
 | zero => exact h.elim
 | succ n =>
  obtain ⟨_, _, rfl, rfl, ⟨_, _, rfl, rfl, ⟨_, _, rfl, rfl, ⟨_, _, rfl, rfl, ⟨_, _, rfl, ⟨A4, c4, rfl, l4, g4⟩, ⟨_, _, rfl, ⟨A5, c5, rfl, l5, g5⟩, ⟨_, _, rfl, ⟨A6, c6, rfl, l6, g6⟩, ⟨_, _, rfl, ⟨A7, c7, rfl, l7, g7⟩, rfl⟩⟩⟩⟩⟩⟩⟩⟩ := h
  exact ⟨A4, c4, A5, c5, A6, c6, A7, c7, rfl, l4, g4, l5, g5, l6, n64_C g6, l7, Kd.fix_C g7⟩
theorem k33_openM {w : World} {base : Nat} {ok : Nat → Prop} {x : S33} {cs : List Value} (h : k33.M w base ok x cs) : ∃ v4 v5 v6 v7, cs = [.int .i64 x.f0, .int .i64 x.f1, .bool x.f2, .bool x.f3, v4, v5, v6, v7, .int .i64 x.f8] ∧ Kd.string.R 9 w base ok v4 x.f4 ∧ (Kd.int .i64).R 2 w base ok v5 x.f5 ∧ k64.R 64 w base ok v6 x.f6 ∧ k33.R 33 w base ok v7 x.f7 := by
 obtain ⟨n, h⟩ := h
 cases n with
 | zero => exact h.elim
 | succ n =>
  obtain ⟨_, _, rfl, rfl, ⟨_, _, rfl, rfl, ⟨_, _, rfl, rfl, ⟨_, _, rfl, rfl, ⟨_, _, rfl, ⟨v4, rfl, g4⟩, ⟨_, _, rfl, ⟨v5, rfl, g5⟩, ⟨_, _, rfl, ⟨v6, rfl, g6⟩, ⟨_, _, rfl, ⟨v7, rfl, g7⟩, rfl⟩⟩⟩⟩⟩⟩⟩⟩ := h
  exact ⟨v4, v5, v6, v7, rfl, g4, g5, n64_R g6, Kd.fix_R g7⟩
theorem k33_mk (w : World) (x : S33) {A4 : Option Addr} {c4 : Nat} (l4 : x.f4.length ≤ c4) (g4 : Kd.string.C w A4 x.f4.length x.f4) {A5 : Option Addr} {c5 : Nat} (l5 : x.f5.length ≤ c5) (g5 : (Kd.int .i64).C w A5 x.f5.length x.f5) {A6 : Option Addr} {c6 : Nat} (l6 : x.f6.length ≤ c6) (g6 : k64.C w A6 x.f6.length x.f6) {A7 : Option Addr} {c7 : Nat} (l7 : x.f7.length ≤ c7) (g7 : k33.C w A7 x.f7.length x.f7) : k33.K w x [.int .i64 x.f0, .int .i64 x.f1, .bool x.f2, .bool x.f3, .slice A4 x.f4.length c4, .slice A5 x.f5.length c5, .slice A6 x.f6.length c6, .slice A7 x.f7.length c7, .int .i64 x.f8] := by
 obtain ⟨n6, q6⟩ := n64_C_back g6
 obtain ⟨n7, q7⟩ := Kd.fix_C_back mono33 g7
 have r6 := n64_C_le (show n6 ≤ (max n6 n7) by omega) q6
 have r7 := Kd.upto_C_le mono33 sz33 (show n7 ≤ (max n6 n7) by omega) q7
 exact ⟨(max n6 n7) + 1, ⟨[.int .i64 x.f0], [.int .i64 x.f1, .bool x.f2, .bool x.f3, .slice A4 x.f4.length c4, .slice A5 x.f5.length c5, .slice A6 x.f6.length c6, .slice A7 x.f7.length c7, .int .i64 x.f8], rfl, rfl, ⟨[.int .i64 x.f1], [.bool x.f2, .bool x.f3, .slice A4 x.f4.length c4, .slice A5 x.f5.length c5, .slice A6 x.f6.length c6, .slice A7 x.f7.length c7, .int .i64 x.f8], rfl, rfl, ⟨[.bool x.f2], [.bool x.f3, .slice A4 x.f4.length c4, .slice A5 x.f5.length c5, .slice A6 x.f6.length c6, .slice A7 x.f7.length c7, .int .i64 x.f8], rfl, rfl, ⟨[.bool x.f3], [.slice A4 x.f4.length c4, .slice A5 x.f5.length c5, .slice A6 x.f6.length c6, .slice A7 x.f7.length c7, .int .i64 x.f8], rfl, rfl, ⟨[.slice A4 x.f4.length c4], [.slice A5 x.f5.length c5, .slice A6 x.f6.length c6, .slice A7 x.f7.length c7, .int .i64 x.f8], rfl, ⟨A4, c4, rfl, l4, g4⟩, ⟨[.slice A5 x.f5.length c5], [.slice A6 x.f6.length c6, .slice A7 x.f7.length c7, .int .i64 x.f8], rfl, ⟨A5, c5, rfl, l5, g5⟩, ⟨[.slice A6 x.f6.length c6], [.slice A7 x.f7.length c7, .int .i64 x.f8], rfl, ⟨A6, c6, rfl, l6, r6⟩, ⟨[.slice A7 x.f7.length c7], [.int .i64 x.f8], rfl, ⟨A7, c7, rfl, l7, r7⟩, rfl⟩⟩⟩⟩⟩⟩⟩⟩⟩
theorem k33_mkM (w : World) (base : Nat) (ok : Nat → Prop) (x : S33) {v4 : Value} (g4 : Kd.string.R 9 w base ok v4 x.f4) {v5 : Value} (g5 : (Kd.int .i64).R 2 w base ok v5 x.f5) {v6 : Value} (g6 : k64.R 64 w base ok v6 x.f6) {v7 : Value} (g7 : k33.R 33 w base ok v7 x.f7) : k33.M w base ok x [.int .i64 x.f0, .int .i64 x.f1, .bool x.f2, .bool x.f3, v4, v5, v6, v7, .int .i64 x.f8] := by
 obtain ⟨n6, q6⟩ := n64_R_back g6
 obtain ⟨n7, q7⟩ := Kd.fix_R_back mono33 g7
 have r6 := n64_R_le (show n6 ≤ (max n6 n7) by omega) q6
 have r7 := Kd.upto_R_le mono33 sz33 (show n7 ≤ (max n6 n7) by omega) q7
 exact ⟨(max n6 n7) + 1, ⟨[.int .i64 x.f0], [.int .i64 x.f1, .bool x.f2, .bool x.f3, v4, v5, v6, v7, .int .i64 x.f8], rfl, rfl, ⟨[.int .i64 x.f1], [.bool x.f2, .bool x.f3, v4, v5, v6, v7, .int .i64 x.f8], rfl, rfl, ⟨[.bool x.f2], [.bool x.f3, v4, v5, v6, v7, .int .i64 x.f8], rfl, rfl, ⟨[.bool x.f3], [v4, v5, v6, v7, .int .i64 x.f8], rfl, rfl, ⟨[v4], [v5, v6, v7, .int .i64 x.f8], rfl, ⟨v4, rfl, g4⟩, ⟨[v5], [v6, v7, .int .i64 x.f8], rfl, ⟨v5, rfl, g5⟩, ⟨[v6], [v7, .int .i64 x.f8], rfl, ⟨v6, rfl, r6⟩, ⟨[v7], [.int .i64 x.f8], rfl, ⟨v7, rfl, r7⟩, rfl⟩⟩⟩⟩⟩⟩⟩⟩⟩
def rd_T33 (xs : List S33) (i : Int) : S33 := xs.getD i.toNat z33
theorem at_T33 {w : World} {A : Option Addr} {n : Nat} {xs : List S33} (h : Kd.C k33 w A n xs) (i : Int) (h0 : 0 ≤ i) (h1 : i < n) : ∃ ad A4 c4 A5 c5 A6 c6 A7 c7, A = some ad ∧ w.cell? (ad.add (i.toNat * 9)) = some (.int .i64 (rd_T33 xs i).f0) ∧ w.cell? ⟨(ad.add (i.toNat * 9)).block, (ad.add (i.toNat * 9)).off + 1, none⟩ = some (.int .i64 (rd_T33 xs i).f1) ∧ w.cell? ⟨(ad.add (i.toNat * 9)).block, (ad.add (i.toNat * 9)).off + 2, none⟩ = some (.bool (rd_T33 xs i).f2) ∧ w.cell? ⟨(ad.add (i.toNat * 9)).block, (ad.add (i.toNat * 9)).off + 3, none⟩ = some (.bool (rd_T33 xs i).f3) ∧ w.cell? ⟨(ad.add (i.toNat * 9)).block, (ad.add (i.toNat * 9)).off + 4, none⟩ = some (.slice A4 (rd_T33 xs i).f4.length c4) ∧ w.cell? ⟨(ad.add (i.toNat * 9)).block, (ad.add (i.toNat * 9)).off + 5, none⟩ = some (.slice A5 (rd_T33 xs i).f5.length c5) ∧ w.cell? ⟨(ad.add (i.toNat * 9)).block, (ad.add (i.toNat * 9)).off + 6, none⟩ = some (.slice A6 (rd_T33 xs i).f6.length c6) ∧ w.cell? ⟨(ad.add (i.toNat * 9)).block, (ad.add (i.toNat * 9)).off + 7, none⟩ = some (.slice A7 (rd_T33 xs i).f7.length c7) ∧ w.cell? ⟨(ad.add (i.toNat * 9)).block, (ad.add (i.toNat * 9)).off + 8, none⟩ = some (.int .i64 (rd_T33 xs i).f8) ∧ (rd_T33 xs i).f4.length ≤ c4 ∧ Kd.string.C w A4 (rd_T33 xs i).f4.length (rd_T33 xs i).f4 ∧ (rd_T33 xs i).f5.length ≤ c5 ∧ (Kd.int .i64).C w A5 (rd_T33 xs i).f5.length (rd_T33 xs i).f5 ∧ (rd_T33 xs i).f6.length ≤ c6 ∧ k64.C w A6 (rd_T33 xs i).f6.length (rd_T33 xs i).f6 ∧ (rd_T33 xs i).f7.length ≤ c7 ∧ k33.C w A7 (rd_T33 xs i).f7.length (rd_T33 xs i).f7 := by
 obtain ⟨ad, c, e, _, hK, hc0⟩ := Kd.C_get h z33 i h0 h1
 have hc : ∀ j u, c[j]? = some u → w.cell? (ad.add (i.toNat * 9 + j)) = some u := hc0
 obtain ⟨A4, c4, A5, c5, A6, c6, A7, c7, rfl, l4, g4, l5, g5, l6, g6, l7, g7⟩ := k33_open hK
 exact ⟨ad, A4, c4, A5, c5, A6, c6, A7, c7, e, hc 0 _ rfl, by rw [← add_field _ _ 1 (by omega)]; exact hc 1 _ rfl, by rw [← add_field _ _ 2 (by omega)]; exact hc 2 _ rfl, by rw [← add_field _ _ 3 (by omega)]; exact hc 3 _ rfl, by rw [← add_field _ _ 4 (by omega)]; exact hc 4 _ rfl, by rw [← add_field _ _ 5 (by omega)]; exact hc 5 _ rfl, by rw [← add_field _ _ 6 (by omega)]; exact hc 6 _ rfl, by rw [← add_field _ _ 7 (by omega)]; exact hc 7 _ rfl, by rw [← add_field _ _ 8 (by omega)]; exact hc 8 _ rfl, l4, g4, l5, g5, l6, g6, l7, g7⟩

/-! #### struct type 64 -/
def z64 : S64 := ⟨(⟨#[]⟩ : ByteArray), (0 : Int), z33⟩
theorem k64_open {w : World} {x : S64} {cs : List Value} (h : k64.K w x cs) : ∃ A6 c6 A7 c7 A8 c8 A9 c9, cs = [.string x.f0, .int .i64 x.f1, .int .i64 x.f2.f0, .int .i64 x.f2.f1, .bool x.f2.f2, .bool x.f2.f3, .slice A6 x.f2.f4.length c6, .slice A7 x.f2.f5.length c7, .slice A8 x.f2.f6.length c8, .slice A9 x.f2.f7.length c9, .int .i64 x.f2.f8] ∧ x.f2.f4.length ≤ c6 ∧ Kd.string.C w A6 x.f2.f4.length x.f2.f4 ∧ x.f2.f5.length ≤ c7 ∧ (Kd.int .i64).C w A7 x.f2.f5.length x.f2.f5 ∧ x.f2.f6.length ≤ c8 ∧ k64.C w A8 x.f2.f6.length x.f2.f6 ∧ x.f2.f7.length ≤ c9 ∧ k33.C w A9 x.f2.f7.length x.f2.f7 := by
 obtain ⟨_, _, rfl, rfl, ⟨_, _, rfl, rfl, s2⟩⟩ := h
 obtain ⟨A6, c6, A7, c7, A8, c8, A9, c9, rfl, l6, g6, l7, g7, l8, g8, l9, g9⟩ := k33_open s2
 exact ⟨A6, c6, A7, c7, A8, c8, A9, c9, rfl, l6, g6, l7, g7, l8, g8, l9, g9⟩
theorem k64_openM {w : World} {base : Nat} {ok : Nat → Prop} {x : S64} {cs : List Value} (h : k64.M w base ok x cs) : ∃ v6 v7 v8 v9, cs = [.string x.f0, .int .i64 x.f1, .int .i64 x.f2.f0, .int .i64 x.f2.f1, .bool x.f2.f2, .bool x.f2.f3, v6, v7, v8, v9, .int .i64 x.f2.f8] ∧ Kd.string.R 9 w base ok v6 x.f2.f4 ∧ (Kd.int .i64).R 2 w base ok v7 x.f2.f5 ∧ k64.R 64 w base ok v8 x.f2.f6 ∧ k33.R 33 w base ok v9 x.f2.f7 := by
 obtain ⟨_, _, rfl, rfl, ⟨_, _, rfl, rfl, s2⟩⟩ := h
 obtain ⟨v6, v7, v8, v9, rfl, g6, g7, g8, g9⟩ := k33_openM s2
 exact ⟨v6, v7, v8, v9, rfl, g6, g7, g8, g9⟩
theorem k64_mk (w : World) (x : S64) {A6 : Option Addr} {c6 : Nat} (l6 : x.f2.f4.length ≤ c6) (g6 : Kd.string.C w A6 x.f2.f4.length x.f2.f4) {A7 : Option Addr} {c7 : Nat} (l7 : x.f2.f5.length ≤ c7) (g7 : (Kd.int .i64).C w A7 x.f2.f5.length x.f2.f5) {A8 : Option Addr} {c8 : Nat} (l8 : x.f2.f6.length ≤ c8) (g8 : k64.C w A8 x.f2.f6.length x.f2.f6) {A9 : Option Addr} {c9 : Nat} (l9 : x.f2.f7.length ≤ c9) (g9 : k33.C w A9 x.f2.f7.length x.f2.f7) : k64.K w x [.string x.f0, .int .i64 x.f1, .int .i64 x.f2.f0, .int .i64 x.f2.f1, .bool x.f2.f2, .bool x.f2.f3, .slice A6 x.f2.f4.length c6, .slice A7 x.f2.f5.length c7, .slice A8 x.f2.f6.length c8, .slice A9 x.f2.f7.length c9, .int .i64 x.f2.f8] := ⟨[.string x.f0], [.int .i64 x.f1, .int .i64 x.f2.f0, .int .i64 x.f2.f1, .bool x.f2.f2, .bool x.f2.f3, .slice A6 x.f2.f4.length c6, .slice A7 x.f2.f5.length c7, .slice A8 x.f2.f6.length c8, .slice A9 x.f2.f7.length c9, .int .i64 x.f2.f8], rfl, rfl, ⟨[.int .i64 x.f1], [.int .i64 x.f2.f0, .int .i64 x.f2.f1, .bool x.f2.f2, .bool x.f2.f3, .slice A6 x.f2.f4.length c6, .slice A7 x.f2.f5.length c7, .slice A8 x.f2.f6.length c8, .slice A9 x.f2.f7.length c9, .int .i64 x.f2.f8], rfl, rfl, (k33_mk w x.f2 l6 g6 l7 g7 l8 g8 l9 g9)⟩⟩
theorem k64_mkM (w : World) (base : Nat) (ok : Nat → Prop) (x : S64) {v6 : Value} (g6 : Kd.string.R 9 w base ok v6 x.f2.f4) {v7 : Value} (g7 : (Kd.int .i64).R 2 w base ok v7 x.f2.f5) {v8 : Value} (g8 : k64.R 64 w base ok v8 x.f2.f6) {v9 : Value} (g9 : k33.R 33 w base ok v9 x.f2.f7) : k64.M w base ok x [.string x.f0, .int .i64 x.f1, .int .i64 x.f2.f0, .int .i64 x.f2.f1, .bool x.f2.f2, .bool x.f2.f3, v6, v7, v8, v9, .int .i64 x.f2.f8] := ⟨[.string x.f0], [.int .i64 x.f1, .int .i64 x.f2.f0, .int .i64 x.f2.f1, .bool x.f2.f2, .bool x.f2.f3, v6, v7, v8, v9, .int .i64 x.f2.f8], rfl, rfl, ⟨[.int .i64 x.f1], [.int .i64 x.f2.f0, .int .i64 x.f2.f1, .bool x.f2.f2, .bool x.f2.f3, v6, v7, v8, v9, .int .i64 x.f2.f8], rfl, rfl, (k33_mkM w base ok x.f2 g6 g7 g8 g9)⟩⟩
def rd_T64 (xs : List S64) (i : Int) : S64 := xs.getD i.toNat z64
theorem at_T64 {w : World} {A : Option Addr} {n : Nat} {xs : List S64} (h : Kd.C k64 w A n xs) (i : Int) (h0 : 0 ≤ i) (h1 : i < n) : ∃ ad A6 c6 A7 c7 A8 c8 A9 c9, A = some ad ∧ w.cell? (ad.add (i.toNat * 11)) = some (.string (rd_T64 xs i).f0) ∧ w.cell? ⟨(ad.add (i.toNat * 11)).block, (ad.add (i.toNat * 11)).off + 1, none⟩ = some (.int .i64 (rd_T64 xs i).f1) ∧ w.cell? ⟨(ad.add (i.toNat * 11)).block, (ad.add (i.toNat * 11)).off + 2, none⟩ = some (.int .i64 (rd_T64 xs i).f2.f0) ∧ w.cell? ⟨(ad.add (i.toNat * 11)).block, (ad.add (i.toNat * 11)).off + 3, none⟩ = some (.int .i64 (rd_T64 xs i).f2.f1) ∧ w.cell? ⟨(ad.add (i.toNat * 11)).block, (ad.add (i.toNat * 11)).off + 4, none⟩ = some (.bool (rd_T64 xs i).f2.f2) ∧ w.cell? ⟨(ad.add (i.toNat * 11)).block, (ad.add (i.toNat * 11)).off + 5, none⟩ = some (.bool (rd_T64 xs i).f2.f3) ∧ w.cell? ⟨(ad.add (i.toNat * 11)).block, (ad.add (i.toNat * 11)).off + 6, none⟩ = some (.slice A6 (rd_T64 xs i).f2.f4.length c6) ∧ w.cell? ⟨(ad.add (i.toNat * 11)).block, (ad.add (i.toNat * 11)).off + 7, none⟩ = some (.slice A7 (rd_T64 xs i).f2.f5.length c7) ∧ w.cell? ⟨(ad.add (i.toNat * 11)).block, (ad.add (i.toNat * 11)).off + 8, none⟩ = some (.slice A8 (rd_T64 xs i).f2.f6.length c8) ∧ w.cell? ⟨(ad.add (i.toNat * 11)).block, (ad.add (i.toNat * 11)).off + 9, none⟩ = some (.slice A9 (rd_T64 xs i).f2.f7.length c9) ∧ w.cell? ⟨(ad.add (i.toNat * 11)).block, (ad.add (i.toNat * 11)).off + 10, none⟩ = some (.int .i64 (rd_T64 xs i).f2.f8) ∧ (rd_T64 xs i).f2.f4.length ≤ c6 ∧ Kd.string.C w A6 (rd_T64 xs i).f2.f4.length (rd_T64 xs i).f2.f4 ∧ (rd_T64 xs i).f2.f5.length ≤ c7 ∧ (Kd.int .i64).C w A7 (rd_T64 xs i).f2.f5.length (rd_T64 xs i).f2.f5 ∧ (rd_T64 xs i).f2.f6.length ≤ c8 ∧ k64.C w A8 (rd_T64 xs i).f2.f6.length (rd_T64 xs i).f2.f6 ∧ (rd_T64 xs i).f2.f7.length ≤ c9 ∧ k33.C w A9 (rd_T64 xs i).f2.f7.length (rd_T64 xs i).f2.f7 := by
 obtain ⟨ad, c, e, _, hK, hc0⟩ := Kd.C_get h z64 i h0 h1
 have hc : ∀ j u, c[j]? = some u → w.cell? (ad.add (i.toNat * 11 + j)) = some u := hc0
 obtain ⟨A6, c6, A7, c7, A8, c8, A9, c9, rfl, l6, g6, l7, g7, l8, g8, l9, g9⟩ := k64_open hK
 exact ⟨ad, A6, c6, A7, c7, A8, c8, A9, c9, e, hc 0 _ rfl, by rw [← add_field _ _ 1 (by omega)]; exact hc 1 _ rfl, by rw [← add_field _ _ 2 (by omega)]; exact hc 2 _ rfl, by rw [← add_field _ _ 3 (by omega)]; exact hc 3 _ rfl, by rw [← add_field _ _ 4 (by omega)]; exact hc 4 _ rfl, by rw [← add_field _ _ 5 (by omega)]; exact hc 5 _ rfl, by rw [← add_field _ _ 6 (by omega)]; exact hc 6 _ rfl, by rw [← add_field _ _ 7 (by omega)]; exact hc 7 _ rfl, by rw [← add_field _ _ 8 (by omega)]; exact hc 8 _ rfl, by rw [← add_field _ _ 9 (by omega)]; exact hc 9 _ rfl, by rw [← add_field _ _ 10 (by omega)]; exact hc 10 _ rfl, l6, g6, l7, g7, l8, g8, l9, g9⟩

/-! #### struct type 52 -/
structure S52 where
 f0 : S27
 f1 : (List Int)
 f2 : ByteArray
def z52 : S52 := ⟨z27, ([] : List Int), (⟨#[]⟩ : ByteArray)⟩
def k52 : Kd S52 := Kd.iso (Kd.pair k27 (Kd.pair (Kd.slice 2 (Kd.int .i64)) Kd.string)) (fun x : S52 => (x.f0, x.f1, x.f2))
theorem k52_open {w : World} {x : S52} {cs : List Value} (h : k52.K w x cs) : ∃ A4 c4 A5 c5 A6 c6 A7 c7 A9 c9, cs = [.int .i64 x.f0.f0, .int .i64 x.f0.f1, .bool x.f0.f2, .bool x.f0.f3, .slice A4 x.f0.f4.length c4, .slice A5 x.f0.f5.length c5, .slice A6 x.f0.f6.length c6, .slice A7 x.f0.f7.length c7, .int .i64 x.f0.f8, .slice A9 x.f1.length c9, .string x.f2] ∧ x.f0.f4.length ≤ c4 ∧ Kd.string.C w A4 x.f0.f4.length x.f0.f4 ∧ x.f0.f5.length ≤ c5 ∧ (Kd.int .i64).C w A5 x.f0.f5.length x.f0.f5 ∧ x.f0.f6.length ≤ c6 ∧ k91.C w A6 x.f0.f6.length x.f0.f6 ∧ x.f0.f7.length ≤ c7 ∧ k27.C w A7 x.f0.f7.length x.f0.f7 ∧ x.f1.length ≤ c9 ∧ (Kd.int .i64).C w A9 x.f1.length x.f1 := by
 obtain ⟨_, _, rfl, s0, ⟨_, _, rfl, ⟨A9, c9, rfl, l9, g9⟩, rfl⟩⟩ := h
 obtain ⟨A4, c4, A5, c5, A6, c6, A7, c7, rfl, l4, g4, l5, g5, l6, g6, l7, g7⟩ := k27_open s0
 exact ⟨A4, c4, A5, c5, A6, c6, A7, c7, A9, c9, rfl, l4, g4, l5, g5, l6, g6, l7, g7, l9, g9⟩
theorem k52_openM {w : World} {base : Nat} {ok : Nat → Prop} {x : S52} {cs : List Value} (h : k52.M w base ok x cs) : ∃ v4 v5 v6 v7 v9, cs = [.int .i64 x.f0.f0, .int .i64 x.f0.f1, .bool x.f0.f2, .bool x.f0.f3, v4, v5, v6, v7, .int .i64 x.f0.f8, v9, .string x.f2] ∧ Kd.string.R 9 w base ok v4 x.f0.f4 ∧ (Kd.int .i64).R 2 w base ok v5 x.f0.f5 ∧ k91.R 91 w base ok v6 x.f0.f6 ∧ k27.R 27 w base ok v7 x.f0.f7 ∧ (Kd.int .i64).R 2 w base ok v9 x.f1 := by
 obtain ⟨_, _, rfl, s0, ⟨_, _, rfl, ⟨v9, rfl, g9⟩, rfl⟩⟩ := h
 obtain ⟨v4, v5, v6, v7, rfl, g4, g5, g6, g7⟩ := k27_openM s0
 exact ⟨v4, v5, v6, v7, v9, rfl, g4, g5, g6, g7, g9⟩
theorem k52_mk (w : World) (x : S52) {A4 : Option Addr} {c4 : Nat} (l4 : x.f0.f4.length ≤ c4) (g4 : Kd.string.C w A4 x.f0.f4.length x.f0.f4) {A5 : Option Addr} {c5 : Nat} (l5 : x.f0.f5.length ≤ c5) (g5 : (Kd.int .i64).C w A5 x.f0.f5.length x.f0.f5) {A6 : Option Addr} {c6 : Nat} (l6 : x.f0.f6.length ≤ c6) (g6 : k91.C w A6 x.f0.f6.length x.f0.f6) {A7 : Option Addr} {c7 : Nat} (l7 : x.f0.f7.length ≤ c7) (g7 : k27.C w A7 x.f0.f7.length x.f0.f7) {A9 : Option Addr} {c9 : Nat} (l9 : x.f1.length ≤ c9) (g9 : (Kd.int .i64).C w A9 x.f1.length x.f1) : k52.K w x [.int .i64 x.f0.f0, .int .i64 x.f0.f1, .bool x.f0.f2, .bool x.f0.f3, .slice A4 x.f0.f4.length c4, .slice A5 x.f0.f5.length c5, .slice A6 x.f0.f6.length c6, .slice A7 x.f0.f7.length c7, .int .i64 x.f0.f8, .slice A9 x.f1.length c9, .string x.f2] := ⟨[.int .i64 x.f0.f0, .int .i64 x.f0.f1, .bool x.f0.f2, .bool x.f0.f3, .slice A4 x.f0.f4.length c4, .slice A5 x.f0.f5.length c5, .slice A6 x.f0.f6.length c6, .slice A7 x.f0.f7.length c7, .int .i64 x.f0.f8], [.slice A9 x.f1.length c9, .string x.f2], rfl, (k27_mk w x.f0 l4 g4 l5 g5 l6 g6 l7 g7), ⟨[.slice A9 x.f1.length c9], [.string x.f2], rfl, ⟨A9, c9, rfl, l9, g9⟩, rfl⟩⟩
theorem k52_mkM (w : World) (base : Nat) (ok : Nat → Prop) (x : S52) {v4 : Value} (g4 : Kd.string.R 9 w base ok v4 x.f0.f4) {v5 : Value} (g5 : (Kd.int .i64).R 2 w base ok v5 x.f0.f5) {v6 : Value} (g6 : k91.R 91 w base ok v6 x.f0.f6) {v7 : Value} (g7 : k27.R 27 w base ok v7 x.f0.f7) {v9 : Value} (g9 : (Kd.int .i64).R 2 w base ok v9 x.f1) : k52.M w base ok x [.int .i64 x.f0.f0, .int .i64 x.f0.f1, .bool x.f0.f2, .bool x.f0.f3, v4, v5, v6, v7, .int .i64 x.f0.f8, v9, .string x.f2] := ⟨[.int .i64 x.f0.f0, .int .i64 x.f0.f1, .bool x.f0.f2, .bool x.f0.f3, v4, v5, v6, v7, .int .i64 x.f0.f8], [v9, .string x.f2], rfl, (k27_mkM w base ok x.f0 g4 g5 g6 g7), ⟨[v9], [.string x.f2], rfl, ⟨v9, rfl, g9⟩, rfl⟩⟩
def rd_T52 (xs : List S52) (i : Int) : S52 := xs.getD i.toNat z52
theorem at_T52 {w : World} {A : Option Addr} {n : Nat} {xs : List S52} (h : Kd.C k52 w A n xs) (i : Int) (h0 : 0 ≤ i) (h1 : i < n) : ∃ ad A4 c4 A5 c5 A6 c6 A7 c7 A9 c9, A = some ad ∧ w.cell? (ad.add (i.toNat * 11)) = some (.int .i64 (rd_T52 xs i).f0.f0) ∧ w.cell? ⟨(ad.add (i.toNat * 11)).block, (ad.add (i.toNat * 11)).off + 1, none⟩ = some (.int .i64 (rd_T52 xs i).f0.f1) ∧ w.cell? ⟨(ad.add (i.toNat * 11)).block, (ad.add (i.toNat * 11)).off + 2, none⟩ = some (.bool (rd_T52 xs i).f0.f2) ∧ w.cell? ⟨(ad.add (i.toNat * 11)).block, (ad.add (i.toNat * 11)).off + 3, none⟩ = some (.bool (rd_T52 xs i).f0.f3) ∧ w.cell? ⟨(ad.add (i.toNat * 11)).block, (ad.add (i.toNat * 11)).off + 4, none⟩ = some (.slice A4 (rd_T52 xs i).f0.f4.length c4) ∧ w.cell? ⟨(ad.add (i.toNat * 11)).block, (ad.add (i.toNat * 11)).off + 5, none⟩ = some (.slice A5 (rd_T52 xs i).f0.f5.length c5) ∧ w.cell? ⟨(ad.add (i.toNat * 11)).block, (ad.add (i.toNat * 11)).off + 6, none⟩ = some (.slice A6 (rd_T52 xs i).f0.f6.length c6) ∧ w.cell? ⟨(ad.add (i.toNat * 11)).block, (ad.add (i.toNat * 11)).off + 7, none⟩ = some (.slice A7 (rd_T52 xs i).f0.f7.length c7) ∧ w.cell? ⟨(ad.add (i.toNat * 11)).block, (ad.add (i.toNat * 11)).off + 8, none⟩ = some (.int .i64 (rd_T52 xs i).f0.f8) ∧ w.cell? ⟨(ad.add (i.toNat * 11)).block, (ad.add (i.toNat * 11)).off + 9, none⟩ = some (.slice A9 (rd_T52 xs i).f1.length c9) ∧ w.cell? ⟨(ad.add (i.toNat * 11)).block, (ad.add (i.toNat * 11)).off + 10, none⟩ = some (.string (rd_T52 xs i).f2) ∧ (rd_T52 xs i).f0.f4.length ≤ c4 ∧ Kd.string.C w A4 (rd_T52 xs i).f0.f4.length (rd_T52 xs i).f0.f4 ∧ (rd_T52 xs i).f0.f5.length ≤ c5 ∧ (Kd.int .i64).C w A5 (rd_T52 xs i).f0.f5.length (rd_T52 xs i).f0.f5 ∧ (rd_T52 xs i).f0.f6.length ≤ c6 ∧ k91.C w A6 (rd_T52 xs i).f0.f6.length (rd_T52 xs i).f0.f6 ∧ (rd_T52 xs i).f0.f7.length ≤ c7 ∧ k27.C w A7 (rd_T52 xs i).f0.f7.length (rd_T52 xs i).f0.f7 ∧ (rd_T52 xs i).f1.length ≤ c9 ∧ (Kd.int .i64).C w A9 (rd_T52 xs i).f1.length (rd_T52 xs i).f1 := by
 obtain ⟨ad, c, e, _, hK, hc0⟩ := Kd.C_get h z52 i h0 h1
 have hc : ∀ j u, c[j]? = some u → w.cell? (ad.add (i.toNat * 11 + j)) = some u := hc0
 obtain ⟨A4, c4, A5, c5, A6, c6, A7, c7, A9, c9, rfl, l4, g4, l5, g5, l6, g6, l7, g7, l9, g9⟩ := k52_open hK
 exact ⟨ad, A4, c4, A5, c5, A6, c6, A7, c7, A9, c9, e, hc 0 _ rfl, by rw [← add_field _ _ 1 (by omega)]; exact hc 1 _ rfl, by rw [← add_field _ _ 2 (by omega)]; exact hc 2 _ rfl, by rw [← add_field _ _ 3 (by omega)]; exact hc 3 _ rfl, by rw [← add_field _ _ 4 (by omega)]; exact hc 4 _ rfl, by rw [← add_field _ _ 5 (by omega)]; exact hc 5 _ rfl, by rw [← add_field _ _ 6 (by omega)]; exact hc 6 _ rfl, by rw [← add_field _ _ 7 (by omega)]; exact hc 7 _ rfl, by rw [← add_field _ _ 8 (by omega)]; exact hc 8 _ rfl, by rw [← add_field _ _ 9 (by omega)]; exact hc 9 _ rfl, by rw [← add_field _ _ 10 (by omega)]; exact hc 10 _ rfl, l4, g4, l5, g5, l6, g6, l7, g7, l9, g9⟩

theorem yA : type_of% @Kd.R_alloc := @Kd.R_alloc
theorem yB : type_of% @Kd.R_drewN := @Kd.R_drewN
theorem yC : type_of% @Kd.R_drew := @Kd.R_drew
theorem yD : type_of% @Aside0.mk := @Aside0.mk
theorem yE : type_of% @below_set := @below_set
theorem yF : type_of% @Kd.R_far := @Kd.R_far
theorem yG : type_of% @blk_cell := @blk_cell
theorem yH : type_of% @Kd.R_base := @Kd.R_base
theorem yI : type_of% @Kd.R_told := @Kd.R_told
theorem yJ : type_of% @Kd.R_new' := @Kd.R_new'
theorem yK : type_of% @Kd.R_lt := @Kd.R_lt
theorem yL : type_of% @pw_below_drewN := @pw_below_drewN
theorem yM : type_of% @blk_drewN := @blk_drewN
theorem yN : type_of% @blk_alloc := @blk_alloc
theorem yO : type_of% @blk_drew := @blk_drew
theorem yP : type_of% @below_drew1 := @below_drew1
theorem yQ : type_of% @below_alloc := @below_alloc
theorem yR : type_of% @blk_frozen := @blk_frozen
theorem yV : type_of% @Kd.C_alloc := @Kd.C_alloc
theorem yW : type_of% @Kd.C_drewN := @Kd.C_drewN
theorem yX : type_of% @Kd.C_drew := @Kd.C_drew
theorem yY : type_of% @Kd.C_below := @Kd.C_below
theorem yZ : type_of% @Kd.R_lower := @Kd.R_lower
theorem zA : type_of% @Kd.R_reads' := @Kd.R_reads'
theorem zB : type_of% @blk_below := @blk_below
theorem zC : type_of% @below_step := @below_step
theorem zE : type_of% @Kd.R_below := @Kd.R_below
theorem zF : type_of% @Kd.R_mono := @Kd.R_mono
theorem zH : type_of% @List.setIfInBounds_toArray := @List.setIfInBounds_toArray
theorem zI : type_of% @List.set_cons_zero := @List.set_cons_zero
theorem zJ : type_of% @List.set_cons_succ := @List.set_cons_succ
theorem zK : type_of% @List.map_toArray := @List.map_toArray
theorem zL : type_of% @List.map_cons := @List.map_cons
theorem zM : type_of% @List.map_nil := @List.map_nil
theorem zN : type_of% @List.length_drop := @List.length_drop
theorem zO : type_of% @List.length_take := @List.length_take
theorem zP : type_of% @of_decide_eq_true := @of_decide_eq_true
theorem zQ : type_of% @World.block_lt_of_cell? := @World.block_lt_of_cell?
theorem zR : type_of% @decide_eq_true := @decide_eq_true
theorem zS : type_of% @decide_eq_false := @decide_eq_false
theorem pA {P : Program} {ops : Array Oper} {Q : Exit → Act → World → Prop} {md : Region.Mode} {S : World → Prop} {ds : List Nat} (i : Nat) (n : Tmp) {oi : Oper} {v : Value} {fuel : Nat} {l : Array Bool} {a : Act} {w : World} (l' : Array Bool) (hi : ops[i]? = some oi) (hN : oi.dst = some n) (hc : anyB md ops l l' i = true)
 (hQ : ∀ c a w, Q (.panic c) (a.put oi.dst v) w → Q (.panic c) a w) (hw : Region.wanted oi (yielded ops a.tmps) = true) (hy : ∀ w, (execOp a.eval oi).run P w = .ok (.value v) w) {a' : Act} (ha : a.put (some n) v = a')
 (h : wpAnyLast P md ops Q S ds fuel l' a' w) : wpAnyLast P md ops Q S ds (fuel + 1) l a w := pure_ l' hi hN hc hQ (Or.inl ⟨hw, hy⟩) ha h
theorem pB {P : Program} {ops : Array Oper} {Q : Exit → Act → World → Prop} {md : Region.Mode} {S : World → Prop} {ds : List Nat} (i : Nat) (n : Tmp) {oi : Oper} {fuel : Nat} {l : Array Bool} {a : Act} {w : World} (l' : Array Bool) (hi : ops[i]? = some oi) (hN : oi.dst = some n) (hc : anyB md ops l l' i = true)
 (hQ : ∀ c a w, Q (.panic c) (a.put oi.dst undef) w → Q (.panic c) a w) (hw : Region.wanted oi (yielded ops a.tmps) = false) {a' : Act} (ha : a.put (some n) undef = a')
 (h : wpAnyLast P md ops Q S ds fuel l' a' w) : wpAnyLast P md ops Q S ds (fuel + 1) l a w := pure_ l' hi hN hc hQ (Or.inr ⟨hw, rfl⟩) ha h
theorem pC {P : Program} {ops : Array Oper} {Q : Exit → Act → World → Prop} {md : Region.Mode} {S : World → Prop} {ds : List Nat} (i : Nat) (n : Tmp) {oi : Oper} {v : Value} {fuel : Nat} {l : Array Bool} {a : Act} {w : World} (l' : Array Bool) (hi : ops[i]? = some oi) (hN : oi.dst = some n) (hc : takeB md ops ds l l' i = true)
 (hQ : ∀ c a w, Q (.panic c) (a.put oi.dst v) w → Q (.panic c) a w) (hw : Region.wanted oi (yielded ops a.tmps) = true) (hS : S w) (hy : ∀ w, S w → (execOp a.eval oi).run P w = .ok (.value v) w) {a' : Act} (ha : a.put (some n) v = a')
 (h : wpAnyLast P md ops Q S ds fuel l' a' w) : wpAnyLast P md ops Q S ds (fuel + 1) l a w := take_ l' hi hN hc hQ (Or.inl ⟨hw, hy⟩) hS ha h
theorem pD {md : Region.Mode} {ops : Array Oper} {T : Bool × List (List Nat × List Nat)} {l l' : Array Bool} {i : Nat} (hT : Aside0 (rtab md ops = T)) (h : anyT T l.toList l'.toList i = true) : anyB md ops l l' i = true := any_of hT.out h
theorem zW_ {α β : Type} {o : Option α} {f : α → Option β} {b : β} (h : o.bind f = some b) : ∃ a, o = some a ∧ f a = some b := Option.bind_eq_some_iff.mp h
def bl : Nat → Nat → List Bool
 | 0, _ => []
 | n + 1, b => Nat.beq (b % 2) 1 :: bl n (b / 2)
def bz (n b : Nat) : Array Bool := ⟨bl n b⟩
theorem kM {A B : Prop} (h : Aside0 A) (f : A → B := by intro h_; (with_reducible repeat (first | refine yM ?_ _ | refine yO ?_ | refine yN ?_ _)); exact h_) : B := f h.out
theorem kA {A B : Prop} (h : Aside0 A) (f : A → B := by intro h_; (with_reducible repeat (first | apply yA | apply yB | apply yC)); exact h_) : B := f h.out
theorem kB {A B : Prop} (h : Aside0 A) (f : A → B := by intro h_; repeat (first | (with_reducible first | exact h_ | apply yQ | apply yL | apply yP | refine yE ?_ (Aside0.out (by assumption))) | exact h_)) : B := f h.out
theorem kV {A B : Prop} (h : A) (f : A → B := by intro h_; repeat (first | exact h_ | (with_reducible first | refine yV ?_ _ | refine yW ?_ _ | refine yX ?_))) : B := f h
theorem qA {P : Program} {ops : Array Oper} {Q : Exit → Act → World → Prop} {md : Region.Mode} {S : World → Prop} {ds : List Nat} (i : Nat) (n : Tmp) {oi : Oper} {v : Value} {fuel : Nat} {l : Array Bool} {a : Act} {w : World} (l' : Array Bool) {a' : Act} {T : Bool × List (List Nat × List Nat)} (hT : Aside0 (rtab md ops = T))
 (h : wpAnyLast P md ops Q S ds fuel l' a' w) (hi : ops[i]? = some oi := by rfl) (hN : oi.dst = some n := by rfl) (hc : anyT T l.toList l'.toList i = true := by kernel_rfl) (hQ : ∀ c a w, Q (.panic c) (a.put oi.dst v) w → Q (.panic c) a w := by exact fun _ _ _ h => h)
 (hw : Region.wanted oi (yielded ops a.tmps) = true := by rfl) (hy : ∀ w, (execOp a.eval oi).run P w = .ok (.value v) w := by intro _; go_simp; with_reducible rfl) (ha : a.put (some n) v = a' := by simp only [Act.put, zH, zI, zJ, i64_w, i32_w]; rfl) : wpAnyLast P md ops Q S ds (fuel + 1) l a w := pure_ l' hi hN (any_of hT.out hc) hQ (Or.inl ⟨hw, hy⟩) ha h
theorem qB {P : Program} {ops : Array Oper} {Q : Exit → Act → World → Prop} {md : Region.Mode} {S : World → Prop} {ds : List Nat} (i : Nat) (n : Tmp) {oi : Oper} {fuel : Nat} {l : Array Bool} {a : Act} {w : World} (l' : Array Bool) {a' : Act} {T : Bool × List (List Nat × List Nat)} (hT : Aside0 (rtab md ops = T))
 (h : wpAnyLast P md ops Q S ds fuel l' a' w) (hi : ops[i]? = some oi := by rfl) (hN : oi.dst = some n := by rfl) (hc : anyT T l.toList l'.toList i = true := by kernel_rfl) (hQ : ∀ c a w, Q (.panic c) (a.put oi.dst undef) w → Q (.panic c) a w := by exact fun _ _ _ h => h)
 (hw : Region.wanted oi (yielded ops a.tmps) = false := by rfl) (ha : a.put (some n) undef = a' := by simp only [Act.put, zH, zI, zJ, i64_w, i32_w]; rfl) : wpAnyLast P md ops Q S ds (fuel + 1) l a w := pure_ l' hi hN (any_of hT.out hc) hQ (Or.inr ⟨hw, rfl⟩) ha h
theorem qC {P : Program} {ops : Array Oper} {Q : Exit → Act → World → Prop} {md : Region.Mode} {S : World → Prop} {ds : List Nat} (i : Nat) (n : Tmp) {oi : Oper} {v : Value} {fuel : Nat} {l : Array Bool} {a : Act} {w : World} (l' : Array Bool) {a' : Act} {T : Bool × List (List Nat × List Nat)} {B : List Nat} (hT : Aside0 (rtab md ops = T)) (hB : Aside0 (waitsOk T.2 B = true)) (hS : S w)
 (h : wpAnyLast P md ops Q S ds fuel l' a' w) (hi : ops[i]? = some oi := by rfl) (hN : oi.dst = some n := by rfl) (hc : takeW T B ds l.toList l'.toList i = true := by kernel_rfl)
 (hQ : ∀ c a w, Q (.panic c) (a.put oi.dst v) w → Q (.panic c) a w := by exact fun _ _ _ h => h) (hw : Region.wanted oi (yielded ops a.tmps) = true := by rfl) (hy : ∀ w, S w → (execOp a.eval oi).run P w = .ok (.value v) w) (ha : a.put (some n) v = a' := by simp only [Act.put, zH, zI, zJ, i64_w, i32_w]; rfl) : wpAnyLast P md ops Q S ds (fuel + 1) l a w := take_ l' hi hN (take_ofW hT.out hB.out hc) hQ (Or.inl ⟨hw, hy⟩) hS ha h
theorem cz9 {w : World} {g : Nat} {t : TypeId} {a0 a1 a2 a3 a4 a5 a6 a7 a8 : Value} (h : w.heap[g]? = some (.cells #[a0, a1, a2, a3, a4, a5, a6, a7, a8] t (0, 0))) : w.cell? ⟨g, 0, none⟩ = some a0 ∧ w.cell? ⟨g, 1, none⟩ = some a1 ∧ w.cell? ⟨g, 2, none⟩ = some a2 ∧ w.cell? ⟨g, 3, none⟩ = some a3 ∧ w.cell? ⟨g, 4, none⟩ = some a4 ∧ w.cell? ⟨g, 5, none⟩ = some a5 ∧ w.cell? ⟨g, 6, none⟩ = some a6 ∧ w.cell? ⟨g, 7, none⟩ = some a7 ∧ w.cell? ⟨g, 8, none⟩ = some a8 := ⟨(yG h 0).trans rfl, (yG h 1).trans rfl, (yG h 2).trans rfl, (yG h 3).trans rfl, (yG h 4).trans rfl, (yG h 5).trans rfl, (yG h 6).trans rfl, (yG h 7).trans rfl, (yG h 8).trans rfl⟩
theorem cz11 {w : World} {g : Nat} {t : TypeId} {a0 a1 a2 a3 a4 a5 a6 a7 a8 a9 a10 : Value} (h : w.heap[g]? = some (.cells #[a0, a1, a2, a3, a4, a5, a6, a7, a8, a9, a10] t (0, 0))) : w.cell? ⟨g, 0, none⟩ = some a0 ∧ w.cell? ⟨g, 1, none⟩ = some a1 ∧ w.cell? ⟨g, 2, none⟩ = some a2 ∧ w.cell? ⟨g, 3, none⟩ = some a3 ∧ w.cell? ⟨g, 4, none⟩ = some a4 ∧ w.cell? ⟨g, 5, none⟩ = some a5 ∧ w.cell? ⟨g, 6, none⟩ = some a6 ∧ w.cell? ⟨g, 7, none⟩ = some a7 ∧ w.cell? ⟨g, 8, none⟩ = some a8 ∧ w.cell? ⟨g, 9, none⟩ = some a9 ∧ w.cell? ⟨g, 10, none⟩ = some a10 := ⟨(yG h 0).trans rfl, (yG h 1).trans rfl, (yG h 2).trans rfl, (yG h 3).trans rfl, (yG h 4).trans rfl, (yG h 5).trans rfl, (yG h 6).trans rfl, (yG h 7).trans rfl, (yG h 8).trans rfl, (yG h 9).trans rfl, (yG h 10).trans rfl⟩
theorem fz9 {w : World} {g : Nat} {t : TypeId} {cs : Array Value} (h : w.heap[g]? = some (.cells cs t (0, 0))) : w.frozen? ⟨g, 0, none⟩ = false ∧ w.frozen? ⟨g, 1, none⟩ = false ∧ w.frozen? ⟨g, 2, none⟩ = false ∧ w.frozen? ⟨g, 3, none⟩ = false ∧ w.frozen? ⟨g, 4, none⟩ = false ∧ w.frozen? ⟨g, 5, none⟩ = false ∧ w.frozen? ⟨g, 6, none⟩ = false ∧ w.frozen? ⟨g, 7, none⟩ = false ∧ w.frozen? ⟨g, 8, none⟩ = false := ⟨yR h 0, yR h 1, yR h 2, yR h 3, yR h 4, yR h 5, yR h 6, yR h 7, yR h 8⟩
theorem fz11 {w : World} {g : Nat} {t : TypeId} {cs : Array Value} (h : w.heap[g]? = some (.cells cs t (0, 0))) : w.frozen? ⟨g, 0, none⟩ = false ∧ w.frozen? ⟨g, 1, none⟩ = false ∧ w.frozen? ⟨g, 2, none⟩ = false ∧ w.frozen? ⟨g, 3, none⟩ = false ∧ w.frozen? ⟨g, 4, none⟩ = false ∧ w.frozen? ⟨g, 5, none⟩ = false ∧ w.frozen? ⟨g, 6, none⟩ = false ∧ w.frozen? ⟨g, 7, none⟩ = false ∧ w.frozen? ⟨g, 8, none⟩ = false ∧ w.frozen? ⟨g, 9, none⟩ = false ∧ w.frozen? ⟨g, 10, none⟩ = false := ⟨yR h 0, yR h 1, yR h 2, yR h 3, yR h 4, yR h 5, yR h 6, yR h 7, yR h 8, yR h 9, yR h 10⟩
theorem kR0 {B : Nat} {w W W' : World} (h : Aside0 (Below B w W)) (f : Below B w W → Below B w W' := by intro h_; repeat (first | (with_reducible first | exact h_ | apply yQ | apply yL | apply yP | refine yE ?_ (Aside0.out (by assumption))) | exact h_)) : Below B w W' := f h.out
theorem kR1 {B : Nat} {w W W' : World} (h : Aside0 (Below B w W)) (f : Below B w W → Below B w W' := by intro h_; repeat (first | (with_reducible first | exact h_ | apply yQ | apply yL | apply yP) | exact h_)) : Below B w W' := f h.out
theorem gL {P : Program} {ops : Array Oper} {Q : Exit → Act → World → Prop} {rest : List Oper} {oi : Oper} {a : Act} {w : World} (N : Tmp) {f : FuncId} {fn : Func} {as' : Array Operand} {ts : Array TypeId} (hf : P.funcs[f]? = some fn) (args : Array Value)
 (h : Calls P f args w fun e w' => ∃ v, e = .returned v ∧ wpList P ops Q rest (a.put (some N) v) w') (hd : oi.dst = some N := by rfl) (hg : oi.guard = none := by rfl) (hname : (fn.name == "runtime.NumGoroutine") = false := by kernel_rfl) (hb : fn.body.isSome = true := by rfl) (hop : oi.op = .call { callee := .value (.func f), args := as', argTypes := ts } := by rfl)
 (hargs : as'.map a.eval = args := by (try simp only [zK, zL, zM]); first | done | rfl | (simp only [zN, zO]; rfl)) : wpList P ops Q (oi :: rest) a w := goesL_ (some N) hd hg hf hname hb args hop hargs h
theorem kN {W w : World} {g : Nat} {o : Obj} (h : Aside0 (W.heap[g]? = some o)) (f : W.heap[g]? = some o → w.heap[g]? = some o := by intro h_; (with_reducible repeat (first | refine yM ?_ _ | refine yO ?_ | refine yN ?_ _)); exact h_) : w.heap[g]? = some o := f h.out
theorem mR {α : Type} {d : Kd α} {e base : Nat} {W w : World} {ok ok' : Nat → Prop} {v : Value} {xs : List α} (h : Aside0 (Kd.R d e W base ok v xs)) (hok : ∀ k, ok k → ok' k) (f : Kd.R d e W base ok' v xs → Kd.R d e w base ok' v xs := by intro h_; (with_reducible repeat (first | apply yA | apply yB | apply yC)); exact h_) : Kd.R d e w base ok' v xs := f (Kd.R_mono h.out hok)
end Go.Proofs.Ytfblodggimjoaaa.PFnExactSameArray
