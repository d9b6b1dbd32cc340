/- A value that is read as data is of the kind that the print tells: numbers, bools, strings, slices, by their types. -/
import Derived.Test.YtdiaebjbiddefaaWWords
import Derived.Deep.Slices
import Derived.ChangeArms
import Derived.DataReads
namespace Go.Proofs.Ytdiaebjbiddefaa.Opens
open Go Go.RowKit Go.Deep Go.Proofs.YtdiaebjbiddefaaW.PrintWords
set_option linter.unusedVariables false

def Opens {α : Type} (P : Program) (t : TypeId) (d : Kd α) (ok : α → Prop) : Prop :=
  ∀ {H : Type} (enc : TypeId × Value → H) (w : World) (base : Nat) (spare : Nat → Bool) (held : Bool) (fuel : Nat) (cs : List Value) (x : DataW H × List MemPlace),
    DataW.trod enc P w base spare held fuel t cs = some x → ∃ v : α, d.K w v cs ∧ ok v

theorem opens_int {P : Program} {t : TypeId} {k : IntKind} (ht : P.underlying t = some (.int k)) : Opens P t (Kd.int k) (fun n => (Lit.int k n).wf = true) := by
  intro H enc w base spare held fuel cs x h
  obtain ⟨n, rfl, _, hw⟩ := DataW.trod_int ht h
  exact ⟨n, rfl, hw⟩
theorem opens_bool {P : Program} {t : TypeId} (ht : P.underlying t = some .bool) : Opens P t Kd.bool (fun _ => True) := by
  intro H enc w base spare held fuel cs x h
  obtain ⟨b, rfl, _⟩ := DataW.trod_bool ht h
  exact ⟨b, rfl, trivial⟩
theorem opens_string {P : Program} {t : TypeId} (ht : P.underlying t = some .string) : Opens P t Kd.string (fun s => s.size ≤ maxLen) := by
  intro H enc w base spare held fuel cs x h
  obtain ⟨s, rfl, _, hs⟩ := DataW.trod_string ht h
  exact ⟨s, rfl, hs⟩
theorem opens_slice {α : Type} {P : Program} {t e : TypeId} {d : Kd α} {ok : α → Prop} (e' : Nat) (ht : P.underlying t = some (.slice e)) (hs : P.cellsOf e = d.sz) (ho : Opens P e d ok) :
    Opens P t (Kd.slice e' d) (fun l => l.length ≤ maxLen ∧ ∀ x ∈ l, ok x) := by
  intro H enc w base spare held fuel cs x h
  rcases open_slice ht h with ⟨rfl, _⟩ | ⟨a, len, cap, m, n, D, Pl, rfl, hb, hl, hm, hmm, _, hx⟩
  · exact ⟨[], ⟨none, 0, rfl, Nat.le_refl _, Kd.C_nil d w⟩, by simp, by simp⟩
  · have hlm : len ≤ m := by rw [hmm]; split <;> omega
    have key : ∀ i : Fin len, ∃ v : α, ∃ c : List Value, w.cells? base (a.add (i.val * P.cellsOf e)) (P.cellsOf e) = some c ∧ d.K w v c ∧ ok v := by
      intro i
      obtain ⟨cs', h1, h2⟩ := hx i.val (by have := i.isLt; omega)
      obtain ⟨v, hk, hok⟩ := ho enc w base spare held n cs' _ h2
      exact ⟨v, cs', h1, hk, hok⟩
    refine ⟨List.ofFn fun i => (key i).choose, ⟨some a, cap, by rw [List.length_ofFn], by rw [List.length_ofFn]; exact hl, ?_⟩, ?_, ?_⟩
    · refine ⟨rfl, by rw [List.length_ofFn]; unfold maxLen at hm; omega, fun _ => ⟨a, rfl, ?_⟩⟩
      intro j p hj
      obtain ⟨hj', hp⟩ := List.getElem?_eq_some_iff.1 hj
      have hjl : j < len := by rw [List.length_ofFn] at hj'; exact hj'
      rw [List.getElem_ofFn] at hp
      obtain ⟨c, h1, h2, _⟩ := (key ⟨j, hjl⟩).choose_spec
      have hp' : (key ⟨j, hjl⟩).choose = p := hp
      rw [hp'] at h2
      refine ⟨c, d.K_len h2, h2, fun i u hu => ?_⟩
      obtain ⟨_, _, hc⟩ := World.cells?_some h1
      have hi : i < P.cellsOf e := by rw [hs, ← d.K_len h2]; exact (List.getElem?_eq_some_iff.1 hu).1
      rw [← Addr.add_add, ← hs]
      exact (hc i hi).trans hu
    · rw [List.length_ofFn]; omega
    · intro v hv
      obtain ⟨i, rfl⟩ := (List.mem_ofFn).1 hv
      exact (key i).choose_spec.choose_spec.2.2
end Go.Proofs.Ytdiaebjbiddefaa.Opens
