/- Each Go function here comes to what the plain function of its name says, where that says something. Made by a program of this session, over the print. -/
import Derived.Test.YtfblodggimjoaaaPFnMergedx0
import Derived.Test.YtfblodggimjoaaaPFnMergedx4
namespace Go.Proofs.Ytfblodggimjoaaa.PFnMerged
open Go.RowKit Go.Proofs.YtfblodggimjoaaaW.PrintWords Go.Proofs.YtfblodggimjoaaaW.PrintLast Go.Proofs.YtfblodggimjoaaaW.PrintMore
attribute [local go_sem] max2_int min2_int max_two min_two max_three min_three max_four min_four   -- for this text's walks alone
set_option linter.unusedVariables false
set_option linter.unusedSimpArgs false

/-! ### impl_Page: function 77 -/
/-! slices.Insert of one page -/
section
open Go.Lib Go.Builtin
def cel (l : List S79) : List Value := l.flatMap fun x => [.int .i64 x.f0, .string x.f1]
theorem cel_cons (x : S79) (l : List S79) : cel (x :: l) = .int .i64 x.f0 :: .string x.f1 :: cel l := rfl
theorem cel_app : ∀ (a b : List S79), cel (a ++ b) = cel a ++ cel b
 | [], b => rfl
 | x :: a, b => by rw [List.cons_append, cel_cons, cel_cons, cel_app a b]; rfl
theorem cel_len : ∀ l : List S79, (cel l).length = l.length * 2
 | [] => rfl
 | x :: l => by rw [cel_cons, List.length_cons, List.length_cons, List.length_cons, cel_len l]; omega
theorem cel_one : ∀ (l : List S79) (v : Value), v ∈ cel l → v.oneCell' = true
 | [], v, h => by cases h
 | x :: l, v, h => by
  rw [cel_cons] at h
  rcases List.mem_cons.1 h with rfl | h
  · rfl
  · rcases List.mem_cons.1 h with rfl | h
    · rfl
    · exact cel_one l v h
theorem cel_drop : ∀ (i : Nat) (l : List S79), (cel l).drop (i * 2) = cel (l.drop i)
 | 0, l => by simp
 | i + 1, [] => by rw [List.drop_nil]; exact List.drop_nil
 | i + 1, x :: l => by rw [cel_cons, show (i + 1) * 2 = i * 2 + 1 + 1 by omega, List.drop_succ_cons, List.drop_succ_cons, List.drop_succ_cons]; exact cel_drop i l
theorem cel_take : ∀ (i : Nat) (l : List S79), (cel l).take (i * 2) = cel (l.take i)
 | 0, l => by simp [cel]
 | i + 1, [] => by rw [List.take_nil]; exact List.take_nil
 | i + 1, x :: l => by rw [cel_cons, show (i + 1) * 2 = i * 2 + 1 + 1 by omega, List.take_succ_cons, List.take_succ_cons, List.take_succ_cons, cel_cons, cel_take i l]
theorem cel_of {w : World} {base : Nat} {ok : Nat → Prop} : ∀ (l : List S79) (cs : List Value), Reps (k79.M w base ok) 2 l cs → cs = cel l
 | [], cs, h => List.eq_nil_of_length_eq_zero (by rw [h.1]; rfl)
 | x :: l, cs, h => by
  have h0 := k79_openM (h.2 0 x rfl)
  rw [Nat.zero_mul, List.drop_zero] at h0
  have hl := h.1
  rw [List.length_cons] at hl
  have e : cs = cs.take 2 ++ cs.drop 2 := (List.take_append_drop 2 cs).symm
  have ht : Reps (k79.M w base ok) 2 l (cs.drop 2) := ⟨by rw [List.length_drop, hl]; omega, fun j p hj => by
   have := h.2 (j + 1) p (by simpa using hj)
   rw [List.drop_drop, show 2 + j * 2 = (j + 1) * 2 by omega]
   exact this⟩
  rw [e, h0, cel_of l _ ht]
  rfl
theorem cel_reps {w : World} {base : Nat} {ok : Nat → Prop} (l : List S79) : Reps (k79.M w base ok) 2 l (cel l) := by
 refine ⟨cel_len l, fun j p hj => ?_⟩
 have hlt : j < l.length := (List.getElem?_eq_some_iff.1 hj).1
 rw [cel_drop]
 rw [show l.drop j = p :: l.drop (j + 1) from by
  have := List.drop_eq_getElem_cons hlt
  rw [this, (List.getElem?_eq_some_iff.1 hj).2]]
 rw [cel_cons]
 exact k79_mkM w base _ p
theorem R_cel {w : World} {base : Nat} {ok : Nat → Prop} {v : Value} {l : List S79} (h : Kd.R k79 79 w base ok v l) : (∀ k, v.ownBlock = some k → ok k) ∧ w.ownsRow base 79 2 v l.length (cel l) := by
 obtain ⟨h0, inner, ho, hr⟩ := h
 exact ⟨h0, by rw [← cel_of l inner hr]; exact ho⟩
theorem cel_R {w : World} {base : Nat} {ok : Nat → Prop} {v : Value} {l : List S79} (h0 : ∀ k, v.ownBlock = some k → ok k) (ho : w.ownsRow base 79 2 v l.length (cel l)) : Kd.R k79 79 w base ok v l := ⟨h0, cel l, ho, cel_reps l⟩
theorem run_copy_row2 {P : Program} (w : World) (dT sT ty elem : TypeId) (g o dLen dCap : Nat) (a : Addr) (sLen sCap : Nat) (cur : Array Value) (t : TypeId) (cs : List Value)
 (hu : P.underlying dT = some (.slice elem)) (hs : (P.info? elem).map (·.size) = some 2)
 (hg : w.heap[g]? = some (.cells cur t (0, 0))) (hn : cs.length = Nat.min sLen dLen * 2)
 (hsrc : ∀ j v, cs[j]? = some v → w.cell? (a.add j) = some v) (hfit : o + cs.length ≤ cur.size) (h1 : ∀ v ∈ cs, v.oneCell' = true) :
 (Builtin.copy_ #[dT, sT] ty #[.slice (some ⟨g, o, none⟩) dLen dCap, .slice (some a) sLen sCap]).run P w =
  .ok (goInt (Nat.min sLen dLen)) (w.setRow g (cur.toList.take o ++ cs ++ cur.toList.drop (o + cs.length)).toArray) := by
 have hl := run_loadCells_list (P := P) w a cs hsrc
 have hst := run_storeCells_at P g o t cs 0 cur w hg (by simpa using hfit) h1
 cases hq : P.info? elem with
 | none => simp [hq] at hs
 | some i =>
  have hi : i.size = 2 := by simpa [hq] using hs
  simp [Builtin.copy_, run_underlying hu, Builtin.lenOf, Builtin.firstCells, sizeOf, typeInfo, hq, hi, ← hn, hl, hst]
theorem cell_cur {w : World} {g : Nat} {cur : Array Value} {t : TypeId} (hg : w.heap[g]? = some (.cells cur t (0, 0))) {j : Nat} {v : Value} (h : cur.toList[j]? = some v) : w.cell? ⟨g, j, none⟩ = some v := by
 rw [cell_of_row w g j cur t (0, 0) hg]
 simpa using h
theorem pre_get {cur : List Value} {xs : List Value} {n : Nat} (h : cur.take n = xs) {j : Nat} {v : Value} (hj : xs[j]? = some v) : cur[j]? = some v := by
 subst h
 rw [List.getElem?_take] at hj
 split at hj
 · exact hj
 · cases hj
set_option maxHeartbeats 4000000 in
set_option maxRecDepth 100000 in
theorem impl_Page_room (g cap vb vc i : Nat) (cur vcur : Array Value) (l0 l2 : List S79) (w : World) (hi : i < l0.length) (hm : l2.length = 1) (hroom : l0.length + 1 ≤ cap) (hcap : cap ≤ maxLen) (hg : w.heap[g]? = some (.cells cur 79 (0, 0))) (hcur : cur.size = cap * 2) (hpre : cur.toList.take (l0.length * 2) = cel l0)
 (hv : w.heap[vb]? = some (.cells vcur 79 (0, 0))) (hvs : 0 < vcur.size) (hvp : vcur.toList.take 2 = cel l2) (hne : vb ≠ g) :
 Calls Try.prog 77 #[.slice (some ⟨g, 0, none⟩) l0.length cap, .int .i64 i, .slice (some ⟨vb, 0, none⟩) 1 vc] w fun e w' => e = .returned (.slice (some ⟨g, 0, none⟩) (l0.length + 1) cap) ∧
  ∃ c2 : Array Value, w' = w.drew.setRow g c2 ∧ c2.size = cur.size ∧ c2.toList.take ((l0.length + 1) * 2) = (cel l0).take (i * 2) ++ cel l2 ++ (cel l0).drop (i * 2) := by
 have hz2 : ¬ ((i : Int) = (l0.length : Int)) := by omega
 have hc63 : cap ≤ 9223372036854775807 := by unfold maxLen at hcap; omega
 have hw1 : IntKind.i64.wrap ((i : Int) + 1) = (i : Int) + 1 := by rw [IntKind.wrap_i64]; omega
 have hw2 : IntKind.i64.wrap ((l0.length : Int) + 1) = (l0.length : Int) + 1 := by rw [IntKind.wrap_i64]; omega
 have hov : ∀ o lb cb, (callFunc 83 #[.slice (some ⟨vb, 0, none⟩) 1 vc, .slice (some ⟨g, o, none⟩) lb cb]).run Try.prog w = .ok (.value (.bool false)) w := fun o lb cb => by
  rw [run_callFunc_extern Try.func83 (by kernel_rfl) (by kernel_rfl) (by kernel_rfl) (e := Extern.SlicesOverlaps.overlaps #[38, 38] #[4]) (by kernel_rfl),
   Lib.run_overlaps_apart w 38 4 79 Try.underlying38 2 Try.sizeOf79 ⟨vb, 0, none⟩ ⟨g, o, none⟩ 1 vc lb cb hne 79 79 vcur.size cur.size (by simp [World.shape?, hv]) (by simp [World.shape?, hg]) (by omega) (by simp [World.frozen?, hv]) (by simp [World.frozen?, hv])]
  rfl
 have hcl := cel_len l0
 have hvl := cel_len l2
 rw [hm] at hvl
 have hL : cur.toList.length = cap * 2 := by rw [Array.length_toList, hcur]
 obtain ⟨c1, hc1⟩ : ∃ c1 : Array Value, c1 = (cur.toList.take ((i + 1) * 2) ++ (cel l0).drop (i * 2) ++ cur.toList.drop ((i + 1) * 2 + ((cel l0).drop (i * 2)).length)).toArray := ⟨_, rfl⟩
 have hdl : ((cel l0).drop (i * 2)).length = (l0.length - i) * 2 := by rw [List.length_drop, hcl]; omega
 have hsz : (Try.prog.info? 79).map (·.size) = some 2 := by kernel_rfl
 have hwg : ∀ W : World, W.heap = w.heap → W.heap[g]? = some (.cells cur 79 (0, 0)) := fun W hW => by rw [hW]; exact hg
 have hcp1 : ∀ ty dc sc, (Builtin.copy_ #[38, 38] ty #[.slice (some ⟨g, (i + 1) * 2, none⟩) (l0.length - i) dc, .slice (some ⟨g, i * 2, none⟩) (l0.length + 1 - i) sc]).run Try.prog w.drew = .ok (goInt (Nat.min (l0.length + 1 - i) (l0.length - i))) (w.drew.setRow g c1) := fun ty dc sc => by
  rw [hc1]
  exact run_copy_row2 w.drew 38 38 ty 79 g ((i + 1) * 2) (l0.length - i) dc ⟨g, i * 2, none⟩ (l0.length + 1 - i) sc cur 79 ((cel l0).drop (i * 2)) Try.underlying38 hsz hg
   (by rw [hdl, show Nat.min (l0.length + 1 - i) (l0.length - i) = l0.length - i by simp only [Nat.min_def]; split <;> omega])
   (fun j v hj => by
    rw [Addr.add_lit]
    rw [List.getElem?_drop] at hj
    exact cell_cur (w := w.drew) hg (pre_get hpre hj))
   (by rw [hdl]; omega) (fun v hv => cel_one l0 v (List.mem_of_mem_drop hv))
 have hs1 : c1.size = cap * 2 := by rw [hc1]; simp only [List.size_toArray, List.length_append, List.length_take, List.length_drop, hL, hcl]; omega
 have hg1 : ∀ W : World, W.heap = (w.drew.setRow g c1).heap → W.heap[g]? = some (.cells c1 79 (0, 0)) := fun W hW => by rw [hW]; exact setRow_heap w.drew g cur c1 79 (0, 0) hg
 have hcp2 : ∀ (W : World), W.heap = (w.drew.setRow g c1).heap → ∀ ty dc, (Builtin.copy_ #[38, 38] ty #[.slice (some ⟨g, i * 2, none⟩) (l0.length + 1 - i) dc, .slice (some ⟨vb, 0, none⟩) 1 vc]).run Try.prog W = .ok (goInt (Nat.min 1 (l0.length + 1 - i))) (W.setRow g (c1.toList.take (i * 2) ++ cel l2 ++ c1.toList.drop (i * 2 + (cel l2).length)).toArray) := fun W hW ty dc =>
  run_copy_row2 W 38 38 ty 79 g (i * 2) (l0.length + 1 - i) dc ⟨vb, 0, none⟩ 1 vc c1 79 (cel l2) Try.underlying38 hsz (hg1 W hW)
   (by rw [hvl, show Nat.min 1 (l0.length + 1 - i) = 1 by simp only [Nat.min_def]; split <;> omega])
   (fun j v hj => by
    rw [Addr.add_lit, Nat.zero_add]
    refine cell_cur (t := 79) (cur := vcur) ?_ (pre_get hvp hj)
    rw [hW, setRow_other _ _ _ _ hne]
    exact hv)
   (by rw [hvl, hs1]; omega) (fun v hv => cel_one l2 v hv)
 have hfin : (c1.toList.take (i * 2) ++ cel l2 ++ c1.toList.drop (i * 2 + (cel l2).length)).toArray.size = cur.size ∧ (c1.toList.take (i * 2) ++ cel l2 ++ c1.toList.drop (i * 2 + (cel l2).length)).take ((l0.length + 1) * 2) = (cel l0).take (i * 2) ++ cel l2 ++ (cel l0).drop (i * 2) := by
  have hk : c1.toList = cur.toList.take ((i + 1) * 2) ++ ((cel l0).drop (i * 2) ++ cur.toList.drop ((l0.length + 1) * 2)) := by
   rw [hc1, List.toList_toArray, List.append_assoc, hdl, show (i + 1) * 2 + (l0.length - i) * 2 = (l0.length + 1) * 2 by omega]
  have h1 : (cur.toList.take ((i + 1) * 2)).length = (i + 1) * 2 := by rw [List.length_take, hL]; omega
  have e1 : c1.toList.take (i * 2) = (cel l0).take (i * 2) := by
   rw [hk, List.take_append_of_le_length (by rw [h1]; omega), List.take_take, show min (i * 2) ((i + 1) * 2) = i * 2 by omega, ← hpre, List.take_take, show min (i * 2) (l0.length * 2) = i * 2 by omega]
  have e2 : c1.toList.drop (i * 2 + (cel l2).length) = (cel l0).drop (i * 2) ++ cur.toList.drop ((l0.length + 1) * 2) := by
   rw [hk, hvl, show i * 2 + 1 * 2 = (i + 1) * 2 by omega, List.drop_append_of_le_length (by omega), List.drop_eq_nil_of_le (by omega), List.nil_append]
  rw [e1, e2]
  have h2 : ((cel l0).take (i * 2)).length = i * 2 := by rw [List.length_take, hcl]; omega
  refine ⟨?_, ?_⟩
  · simp only [List.size_toArray, List.length_append, List.length_drop, h2, hvl, hL, hcl, hcur]; omega
  · rw [← List.append_assoc, List.take_append_of_le_length (by simp only [List.length_append, h2, hvl, hdl]; omega), List.take_of_length_le (by simp only [List.length_append, h2, hvl, hdl]; omega)]
 have hb1 : (0 : Int) ≤ (i : Int) + 1 := by omega
 have htn : ((i : Int) + 1).toNat = i + 1 := by omega
 have hb2 : ¬ (cap = i + 1) := by omega
 have hb3 : (i : Int) ≤ (l0.length : Int) + 1 := by omega
 have hb4 : ¬ (cap = i) := by omega
 have hin : i ≤ l0.length := by omega
 have hin2 : (i : Int) ≤ (l0.length : Int) := by omega
 have hin3 : (i : Int) + 1 ≤ (l0.length : Int) + 1 := by omega
 clear hc1 hpre hvp
 go_enter Try.func77, Try.ntmps77
 go_wp2_with (simp only [hov])
 go_region_law (refine step_copy_runI rfl _ _ 38 38 rfl _ _ (by simp [Act.eval, Act.put]) (by simp [Act.eval, Act.put]) (hcp1 _ _ _) ?_)
 go_wp2_with (at_builtin; refine wpList_copy_runI _ rfl _ _ 38 38 rfl _ _ rfl rfl (hcp2 _ rfl _ _) ?_)
 go_ret
 rw [hvl, List.append_assoc] at hfin
 exact ⟨rfl, _, setRow_setRow _ _ _ _, hfin⟩
set_option maxHeartbeats 4000000 in
set_option maxRecDepth 100000 in
theorem impl_Page_grow (g cap vb vc i : Nat) (cur vcur : Array Value) (l0 l2 : List S79) (w : World) (hi : i < l0.length) (hm : l2.length = 1) (hnc : l0.length ≤ cap) (hroom : cap < l0.length + 1) (hbig : l0.length ≤ 1048576) (hg : w.heap[g]? = some (.cells cur 79 (0, 0))) (hcur : cur.size = cap * 2) (hpre : cur.toList.take (l0.length * 2) = cel l0)
 (hv : w.heap[vb]? = some (.cells vcur 79 (0, 0))) (hvp : vcur.toList.take 2 = cel l2) :
 Calls Try.prog 77 #[.slice (some ⟨g, 0, none⟩) l0.length cap, .int .i64 i, .slice (some ⟨vb, 0, none⟩) 1 vc] w fun e w' => ∃ G : Nat, e = .returned (.slice (some ⟨w.heap.size, 0, none⟩) (l0.length + 1) G) ∧ l0.length + 1 ≤ G ∧ G ≤ maxLen ∧
  ∃ c0 c2 : Array Value, ∃ W : World, w' = W.setRow w.heap.size c2 ∧ W.heap = (w.alloc (.cells c0 79 (0, 0))).heap ∧ Below w.heap.size w W ∧ c2.size = G * 2 ∧ c2.toList.take ((l0.length + 1) * 2) = (cel l0).take (i * 2) ++ cel l2 ++ (cel l0).drop (i * 2) := by
 have hz2 : ¬ ((i : Int) = (l0.length : Int)) := by omega
 have hz3 : (cap : Int) < (l0.length : Int) + 1 := by omega
 have hw1 : IntKind.i64.wrap ((i : Int) + 1) = (i : Int) + 1 := by rw [IntKind.wrap_i64]; omega
 have hw2 : IntKind.i64.wrap ((l0.length : Int) + 1) = (l0.length : Int) + 1 := by rw [IntKind.wrap_i64]; omega
 have hw3 : IntKind.i64.wrap ((l0.length : Int) + 1 - (i : Int)) = (l0.length : Int) + 1 - (i : Int) := by rw [IntKind.wrap_i64]; omega
 have hcl := cel_len l0
 have hvl := cel_len l2
 rw [hm] at hvl
 have hgl : g < w.heap.size := (Array.getElem?_eq_some_iff.1 hg).1
 have hvlt : vb < w.heap.size := (Array.getElem?_eq_some_iff.1 hv).1
 obtain ⟨i0, hi0, hzz⟩ := Option.map_eq_some_iff.1 info79
 simp only [Prod.mk.injEq] at hzz
 obtain ⟨hz0, hzs, hzb⟩ := hzz
 have hsz : (Try.prog.info? 79).map (·.size) = some 2 := by rw [hi0]; simp [hzs]
 have hkk : (l0.length : Int) + 1 - (i : Int) = ((l0.length + 1 - i : Nat) : Int) := by omega
 have hik : i + (l0.length + 1 - i) = l0.length + 1 := by omega
 have hold : (Builtin.firstCells i0.size i (.slice (some ⟨g, 0, none⟩) i cap)).run Try.prog w.drew = .ok ((cel l0).take (i * 2)).toArray w.drew := by
  rw [hzs]
  exact run_firstCells_some w.drew 2 i ⟨g, 0, none⟩ i cap ((cel l0).take (i * 2)) (by rw [List.length_take, hcl]; omega) (fun j v hj => by
   rw [Addr.add_lit, Nat.zero_add]
   rw [List.getElem?_take] at hj
   split at hj
   · exact cell_cur (w := w.drew) hg (pre_get hpre hj)
   · cases hj)
 have hrz : ∀ ty, (Builtin.append_ #[38, 3] ty #[.slice (some ⟨g, 0, none⟩) i cap, .int .i64 ((l0.length : Int) + 1 - (i : Int))]).run Try.prog w =
  .ok (.slice (some ⟨w.heap.size, 0, none⟩) (l0.length + 1) (grownCap w (l0.length + 1) cap 79)) (w.drew.alloc (.cells (((cel l0).take (i * 2)).toArray ++ Builtin.zeroCells (Value.agg #[.int .i64 0, .string ⟨#[]⟩]).cells (l0.length + 1 - i) ++ Builtin.zeroCells (Value.agg #[.int .i64 0, .string ⟨#[]⟩]).cells (grownCap w (l0.length + 1) cap 79 - (l0.length + 1))) 79)) := fun ty => by
  have h := Lib.run_append_grow_zeros w 38 3 ty 79 i0 _ .i64 .i64 Try.underlying38 Try.underlying3 hi0 hz0 (some ⟨g, 0, none⟩) i cap ((cel l0).take (i * 2)) hold (l0.length + 1 - i) (by omega) (by omega) (by omega) (by omega) (by rw [hzb]; omega) (by rw [hzb, hik]; exact growslice_fits hroom (by omega))
  rw [hik] at h
  rw [hkk]
  exact h
 obtain ⟨G, hG⟩ : ∃ G, G = grownCap w (l0.length + 1) cap 79 := ⟨_, rfl⟩
 obtain ⟨ROW, hROW⟩ : ∃ ROW : Array Value, ROW = ((cel l0).take (i * 2)).toArray ++ Builtin.zeroCells (Value.agg #[.int .i64 0, .string ⟨#[]⟩]).cells (l0.length + 1 - i) ++ Builtin.zeroCells (Value.agg #[.int .i64 0, .string ⟨#[]⟩]).cells (G - (l0.length + 1)) := ⟨_, rfl⟩
 rw [← hG] at hrz
 rw [← hROW] at hrz
 have hGn : l0.length + 1 ≤ G := by rw [hG]; exact grownCap_ge w _ _ _
 have hGm : G ≤ maxLen := by rw [hG]; exact grownCap_le_maxLen w (l0.length + 1) cap 79 (by unfold maxLen; omega)
 have hG63 : G ≤ 9223372036854775807 := by unfold maxLen at hGm; omega
 have hRs : ROW.size = G * 2 := by
  rw [hROW]
  simp only [Array.size_append, size_zeroCells, List.size_toArray, List.length_take, hcl]
  show min (i * 2) (l0.length * 2) + (l0.length + 1 - i) * 2 + (G - (l0.length + 1)) * 2 = G * 2
  omega
 have hRt : ROW.toList.take (i * 2) = (cel l0).take (i * 2) := by
  rw [hROW]
  simp only [Array.toList_append, List.append_assoc]
  rw [List.take_append_of_le_length (by rw [List.length_take, hcl]; omega), List.take_take, Nat.min_self]
 obtain ⟨W1, hW1⟩ : ∃ W1, W1 = w.drew.alloc (.cells ROW 79) := ⟨_, rfl⟩
 rw [← hW1] at hrz
 have hN : W1.heap[w.heap.size]? = some (.cells ROW 79 (0, 0)) := by
  rw [hW1]
  show (w.heap.push _)[w.heap.size]? = _
  rw [Array.getElem?_push_size]
 have hE : ∀ k, k < w.heap.size → W1.heap[k]? = w.heap[k]? := fun k hk => by
  rw [hW1]
  show (w.heap.push _)[k]? = _
  rw [Array.getElem?_push_lt hk, Array.getElem?_eq_getElem hk]
 have hB1 : Below w.heap.size w W1 := by rw [hW1]; exact below_alloc (below_drew (Below.refl _ _)) _
 clear hROW hG hkk hik hold
 have hdl : ((cel l0).drop (i * 2)).length = (l0.length - i) * 2 := by rw [List.length_drop, hcl]; omega
 have hRL : ROW.toList.length = G * 2 := by rw [Array.length_toList, hRs]
 have h2 : ((cel l0).take (i * 2)).length = i * 2 := by rw [List.length_take, hcl]; omega
 obtain ⟨c1, hc1⟩ : ∃ c1 : Array Value, c1 = (ROW.toList.take (i * 2) ++ cel l2 ++ ROW.toList.drop (i * 2 + (cel l2).length)).toArray := ⟨_, rfl⟩
 have hcpA : ∀ (W : World), W.heap = W1.heap → ∀ ty dc, (Builtin.copy_ #[38, 38] ty #[.slice (some ⟨w.heap.size, i * 2, none⟩) (l0.length + 1 - i) dc, .slice (some ⟨vb, 0, none⟩) 1 vc]).run Try.prog W = .ok (goInt (Nat.min 1 (l0.length + 1 - i))) (W.setRow w.heap.size c1) := fun W hW ty dc => by
  rw [hc1]
  exact run_copy_row2 W 38 38 ty 79 w.heap.size (i * 2) (l0.length + 1 - i) dc ⟨vb, 0, none⟩ 1 vc ROW 79 (cel l2) Try.underlying38 hsz (by rw [hW]; exact hN)
   (by rw [hvl, show Nat.min 1 (l0.length + 1 - i) = 1 by simp only [Nat.min_def]; split <;> omega])
   (fun j v hj => by
    rw [Addr.add_lit, Nat.zero_add]
    refine cell_cur (t := 79) (cur := vcur) ?_ (pre_get hvp hj)
    rw [hW, hE vb hvlt]
    exact hv)
   (by rw [hvl, hRs]; omega) (fun v hv => cel_one l2 v hv)
 have hk1 : c1.toList = (cel l0).take (i * 2) ++ (cel l2 ++ ROW.toList.drop ((i + 1) * 2)) := by
  rw [hc1, List.append_assoc, hRt, hvl, show i * 2 + 1 * 2 = (i + 1) * 2 by omega]
 have hs1 : c1.size = G * 2 := by
  rw [← Array.length_toList, hk1]
  simp only [List.length_append, h2, hvl, List.length_drop, hRL]
  omega
 have hN1 : ∀ W : World, W.heap = (W1.setRow w.heap.size c1).heap → W.heap[w.heap.size]? = some (.cells c1 79 (0, 0)) := fun W hW => by rw [hW]; exact setRow_heap W1 w.heap.size ROW c1 79 (0, 0) hN
 obtain ⟨c2, hc2⟩ : ∃ c2 : Array Value, c2 = (c1.toList.take ((i + 1) * 2) ++ (cel l0).drop (i * 2) ++ c1.toList.drop ((i + 1) * 2 + ((cel l0).drop (i * 2)).length)).toArray := ⟨_, rfl⟩
 have hcpB : ∀ (W : World), W.heap = (W1.setRow w.heap.size c1).heap → ∀ ty dc sc, (Builtin.copy_ #[38, 38] ty #[.slice (some ⟨w.heap.size, (i + 1) * 2, none⟩) (l0.length - i) dc, .slice (some ⟨g, i * 2, none⟩) (l0.length - i) sc]).run Try.prog W = .ok (goInt (Nat.min (l0.length - i) (l0.length - i))) (W.setRow w.heap.size c2) := fun W hW ty dc sc => by
  rw [hc2]
  exact run_copy_row2 W 38 38 ty 79 w.heap.size ((i + 1) * 2) (l0.length - i) dc ⟨g, i * 2, none⟩ (l0.length - i) sc c1 79 ((cel l0).drop (i * 2)) Try.underlying38 hsz (hN1 W hW)
   (by rw [hdl, show Nat.min (l0.length - i) (l0.length - i) = l0.length - i by simp only [Nat.min_def]; split <;> omega])
   (fun j v hj => by
    rw [Addr.add_lit]
    rw [List.getElem?_drop] at hj
    refine cell_cur (t := 79) (cur := cur) ?_ (pre_get hpre hj)
    rw [hW, setRow_other _ _ _ _ (by omega), hE g hgl]
    exact hg)
   (by rw [hdl, hs1]; omega) (fun v hv => cel_one l0 v (List.mem_of_mem_drop hv))
 have hfin : c2.size = G * 2 ∧ c2.toList.take ((l0.length + 1) * 2) = (cel l0).take (i * 2) ++ cel l2 ++ (cel l0).drop (i * 2) := by
  have hk : c2.toList = (cel l0).take (i * 2) ++ cel l2 ++ (cel l0).drop (i * 2) ++ c1.toList.drop ((l0.length + 1) * 2) := by
   rw [hc2]
   show c1.toList.take ((i + 1) * 2) ++ (cel l0).drop (i * 2) ++ c1.toList.drop ((i + 1) * 2 + ((cel l0).drop (i * 2)).length) = _
   rw [hdl, show (i + 1) * 2 + (l0.length - i) * 2 = (l0.length + 1) * 2 by omega]
   congr 2
   rw [hk1, ← List.append_assoc, List.take_append_of_le_length (by simp only [List.length_append, h2, hvl]; omega), List.take_of_length_le (by simp only [List.length_append, h2, hvl]; omega)]
  refine ⟨?_, ?_⟩
  · rw [← Array.length_toList, hk]
    have : c1.toList.length = G * 2 := by rw [Array.length_toList, hs1]
    simp only [List.length_append, h2, hvl, List.length_drop, this, hcl]
    omega
  · rw [hk, List.take_append_of_le_length (by simp only [List.length_append, h2, hvl, hdl]; omega), List.take_of_length_le (by simp only [List.length_append, h2, hvl, hdl]; omega)]
 clear hc1 hc2 hk1
 have hH1 : ((w.alloc (.cells ROW 79)).drew).heap = W1.heap := by rw [hW1]; rfl
 have hci : ¬ (cap = i) := by omega
 have hGi : ¬ (G = i) := by omega
 have hGim : ¬ (G = i + 1) := by omega
 have hb1 : (0 : Int) ≤ (i : Int) + 1 := by omega
 have hin : i ≤ l0.length := by omega
 have hin2 : (i : Int) ≤ (l0.length : Int) := by omega
 have hin3 : (i : Int) + 1 ≤ (l0.length : Int) + 1 := by omega
 have htn : ((i : Int) + 1).toNat = i + 1 := by omega
 go_enter Try.func77, Try.ntmps77
 go_wp2_with (first
  | (at_builtin; refine Lib.wpList_append_run _ rfl _ _ _ _ rfl _ _ rfl rfl _ _ (hrz _) ?_)
  | (at_builtin; refine wpList_copy_runI _ rfl _ _ 38 38 rfl _ _ rfl rfl (hcpA _ hH1 _ _) ?_))
 have hH2 : (((w.alloc (.cells ROW 79)).drew.setRow w.heap.size c1).drew).heap = (W1.setRow w.heap.size c1).heap := by
  rw [hW1]; rfl
 go_region_law (refine step_copy_runI rfl _ _ 38 38 rfl _ _ (by simp [Act.eval, Act.put]) (by simp [Act.eval, Act.put]) (hcpB _ hH2 _ _ _) ?_)
 go_wp2
 go_ret
 refine ⟨G, rfl, hGn, hGm, ROW, c2, (w.alloc (.cells ROW 79)).drew.drew, ?_, rfl, below_drew (below_drew (below_alloc (Below.refl _ _) _)), hfin⟩
 exact setRow_setRow (w.alloc (.cells ROW 79)).drew.drew w.heap.size c1 c2
def impl_Page.f (l0 : List S79) (a1 : Int) (l2 : List S79) : Option (List S79) := if l0.length ≤ 1048576 ∧ l2.length = 1 ∧ 0 ≤ a1 ∧ a1 ≤ (l0.length : Int) then some (l0.take a1.toNat ++ l2 ++ l0.drop a1.toNat) else none
set_option maxHeartbeats 4000000 in
set_option maxRecDepth 100000 in
theorem impl_Page.calls (P0_ : Nat → Prop) (u9000_ : Value) (l0 : List S79) (a1 : Int) (P2_ : Nat → Prop) (u9001_ : Value) (l2 : List S79) (r : List S79) (w0 w : World) (hB : Below w0.heap.size w0 w) (ho0 : Kd.R k79 79 w w0.heap.size P0_ u9000_ l0) (hp0_2 : ∀ k_, P0_ k_ → ¬ P2_ k_) (ho2 : Kd.R k79 79 w w0.heap.size P2_ u9001_ l2) (hp2_0 : ∀ k_, P2_ k_ → ¬ P0_ k_) (h : impl_Page.f l0 a1 l2 = some r) :
 Calls Try.prog 77 #[u9000_, .int .i64 a1, u9001_] w fun e w' => ∃ v0_ : Value, e = .returned (v0_) ∧ Kd.R k79 79 w' w0.heap.size (fun k_ => ((P0_ k_ ∨ P2_ k_) ∨ w.heap.size ≤ k_)) v0_ r ∧ Below w0.heap.size w0 w' ∧ Kept w w' (fun k_ => P0_ k_ ∨ P2_ k_) := by
 unfold impl_Page.f at h
 split at h
 case isFalse => cases h
 rename_i hc
 obtain ⟨hbig, hm, h0, h1⟩ := hc
 obtain rfl := Option.some.inj h
 obtain ⟨i, rfl⟩ : ∃ i : Nat, a1 = (i : Int) := ⟨a1.toNat, by omega⟩
 rw [Int.toNat_natCast] at h ⊢
 clear h
 obtain ⟨hq2, -, ho2'⟩ := R_cel ho2
 rcases ho2' with ⟨-, hz⟩ | ⟨vb, vc, vcur, rfl, hvb, hv, hvn, hvm, hvs, hvp⟩
 · omega
 rw [hm] at hvp hvn ho2
 rw [Nat.one_mul] at hvp
 have hP2 : P2_ vb := hq2 vb rfl
 rw [hm]
 by_cases hi : i = l0.length
 ·
  subst hi
  have hr2 := (Kd.R_reads' ho2).2.2
  have e0 : l0.take l0.length ++ l2 ++ l0.drop l0.length = l0 ++ l2 := by rw [List.take_length, List.drop_length, List.append_nil]
  rw [e0]
  have hq0 := (R_cel ho0).1
  have key : ∀ {ops : Array Oper} {rest : List Oper} {o : Oper} {a : Act} {Q : Exit → Act → World → Prop} (hgd : o.guard = none) (s x : Operand) (ho : o.op = .call { callee := .builtin .append, args := #[s, x], argTypes := #[38, 38] }) (hs : a.eval s = u9000_) (hx : a.eval x = .slice (some ⟨vb, 0, none⟩) 1 vc)
   (hk : ∀ v1 w1, Kd.R k79 79 w1 w0.heap.size (fun k_ => ((P0_ k_ ∨ P2_ k_) ∨ w.heap.size ≤ k_)) v1 (l0 ++ l2) → Below w0.heap.size w0 w1 → Kept w w1 (fun k_ => P0_ k_ ∨ P2_ k_) → wpList Try.prog ops Q rest (a.put o.dst v1) w1), wpList Try.prog ops Q (o :: rest) a w := fun hgd s x ho hs hx hk =>
   Kd.R_append_rows k79 (w0 := w0) w0.heap.size hgd s x 38 79 (.agg #[.int .i64 0, .string ⟨#[]⟩]) 24 ho Try.underlying38 info79 rfl (by decide) (by omega) u9000_ l0 l2 (some ⟨vb, 0, none⟩) 1 vc (fun k_ => P0_ k_ ∨ w.heap.size ≤ k_) (fun _ => False) hs hx (Kd.R_mono ho0 (fun _ h => .inl h)) (by rw [hm] at hr2; exact hr2) (fun _ _ h => h) (fun _ h => h.elim) (fun _ h => .inr h) hB hB.size (by omega)
    (fun v1 w1 ho hb hg hat => hk v1 w1 (Kd.R_mono ho (fun k h => h.elim (fun h => .inl (.inl h)) .inr)) hb (Kept.of_grown hg (Kept.refl w _) (fun k e => .inl (.inl (hq0 k e)))))
  have hz1 : ((l0.length : Int) == (l0.length : Int)) = true := beq_self_eq_true _
  rcases (R_cel ho0).2.2 with ⟨rfl, hz⟩ | ⟨g, cap, cur, rfl, hgb, hg, hgn, hgm, hgs, hgp⟩
  · obtain rfl := List.length_eq_zero_iff.1 hz
    clear hr2 hv hvp hvs hq0 ho0 ho2
    go_enter Try.func77, Try.ntmps77
    go_wp2_with (at_builtin; refine key rfl _ _ rfl rfl rfl ?_; intro v1 w1 hR hBB hK)
    go_ret
    exact ⟨_, rfl, hR, hBB, hK⟩
  · have hc63 : cap ≤ 9223372036854775807 := by unfold maxLen at hgm; omega
    clear hr2 hv hvp hvs hq0 ho0 ho2 hg hgs hgp
    go_enter Try.func77, Try.ntmps77
    go_wp2_with (at_builtin; refine key rfl _ _ rfl rfl rfl ?_; intro v1 w1 hR hBB hK)
    all_goals (go_ret; exact ⟨_, rfl, hR, hBB, hK⟩)
 ·
  have hil : i < l0.length := by omega
  obtain ⟨hq0, -, ho0'⟩ := R_cel ho0
  rcases ho0' with ⟨-, hz⟩ | ⟨g, cap, cur, rfl, hgb, hg, hgn, hgm, hgs, hgp⟩
  · omega
  have hP0 : P0_ g := hq0 g rfl
  have hne : vb ≠ g := fun e => hp0_2 g hP0 (e ▸ hP2)
  have hfl : cel (l0.take i ++ l2 ++ l0.drop i) = (cel l0).take (i * 2) ++ cel l2 ++ (cel l0).drop (i * 2) := by rw [cel_app, cel_app, cel_take, cel_drop]
  have hlen : (l0.take i ++ l2 ++ l0.drop i).length = l0.length + 1 := by simp only [List.length_append, List.length_take, List.length_drop, hm]; omega
  by_cases hroom : l0.length + 1 ≤ cap
  ·
   refine (impl_Page_room g cap vb vc i cur vcur l0 l2 w hil hm hroom hgm hg hgs hgp hv (by omega) hvp hne).mono ?_
   rintro e w' ⟨rfl, c2, rfl, h3, h4⟩
   refine ⟨_, rfl, cel_R (fun k hk => ?_) ?_, below_setRow (below_drew hB) hgb c2, ?_⟩
   · obtain rfl : g = k := by simpa [Value.ownBlock] using hk
     exact .inl (.inl hP0)
   · rw [hlen]
     exact ⟨by rw [hfl, ← hlen, ← cel_len, hfl], .inr ⟨g, cap, c2, rfl, hgb, setRow_heap _ g cur c2 79 (0, 0) hg, hroom, hgm, by rw [h3, hgs], by rw [h4, hfl]⟩⟩
   · refine ⟨by rw [setRow_size]; exact Nat.le_refl _, fun k hk hn => ?_⟩
     rw [setRow_other _ _ _ _ (fun e => hn (.inl (by rw [e]; exact hP0)))]
     rfl
  ·
   refine (impl_Page_grow g cap vb vc i cur vcur l0 l2 w hil hm hgn (by omega) hbig hg hgs hgp hv hvp).mono ?_
   rintro e w' ⟨G, rfl, hG, hGm, c0, c2, W, rfl, hW, hWB, h3, h4⟩
   have hWN : W.heap[w.heap.size]? = some (.cells c0 79 (0, 0)) := by
    rw [hW]
    show (w.heap.push _)[w.heap.size]? = _
    rw [Array.getElem?_push_size]
   refine ⟨_, rfl, cel_R (fun k hk => ?_) ?_, below_setRow (below_step hB hWB) hB.size c2, ?_⟩
   · obtain rfl : w.heap.size = k := by simpa [Value.ownBlock] using hk
     exact .inr (Nat.le_refl _)
   · rw [hlen]
     exact ⟨by rw [hfl, ← hlen, ← cel_len, hfl], .inr ⟨w.heap.size, G, c2, rfl, hB.size, setRow_heap W w.heap.size c0 c2 79 (0, 0) hWN, hG, hGm, h3, by rw [h4, hfl]⟩⟩
   · refine ⟨by rw [setRow_size]; exact hWB.size, fun k hk hn => ?_⟩
     rw [setRow_other _ _ _ _ (by omega)]
     exact hWB.block k hk
end

/-! ### impl_putPage: function 69 -/
def impl_putPage.f (k : Nat) (l0 : List (S79)) (a1_0 : Int) (a1_1 : ByteArray) : Option ((List (S79))) := (impl_pageAt.f k l0 a1_0).bind fun bt246 => (if bt246.2 = true then (if 0 ≤ bt246.1 then (if bt246.1 < (l0.length : Int) then (some (l0.set (bt246.1 : Int).toNat (⟨a1_0, a1_1⟩ : S79))) else (none)) else (none)) else ((impl_Page.f l0 bt246.1 (([(⟨a1_0, a1_1⟩ : S79)] : List (S79)))).bind fun t252 => (some t252)))
theorem impl_putPage.mono : ∀ a0 a1 a2 k, LeO (impl_putPage.f k a0 a1 a2) (impl_putPage.f (k + 1) a0 a1 a2) := by
 intro a0 a1 a2 k
 unfold impl_putPage.f
 repeat' (with_reducible first | exact impl_pageAt.mono _ _ _ | exact LeO.refl _ | exact LeO.none _ | refine LeO.ite ?_ ?_ | refine LeO.bind ?_ (fun _ => ?_))
set_option maxHeartbeats 8000000 in
set_option maxRecDepth 100000 in
theorem impl_putPage.calls (k : Nat) (P0_ : Nat → Prop) (u9000_ : Value) (l0 : List (S79)) (a1_0 : Int) (a1_1 : ByteArray) (r : List (S79)) (w0 w : World) (hB : Below w0.heap.size w0 w) (ho0 : Kd.R k79 79 w w0.heap.size P0_ u9000_ l0) (h : impl_putPage.f k l0 a1_0 a1_1 = some r) :
 Calls Try.prog 69 #[u9000_, .agg #[.int .i64 a1_0, .string a1_1]] w fun e w' => ∃ v0_ : Value, e = .returned (v0_) ∧ Kd.R k79 79 w' w0.heap.size (fun k_ => (P0_ k_ ∨ w.heap.size ≤ k_)) v0_ r ∧ Below w0.heap.size w0 w' ∧ Kept w w' (fun k_ => P0_ k_) := by
 have hu79 := Try.underlying79
 have HO0 := yD (show Kd.R k79 79 w w0.heap.size (fun k_ => (P0_ k_ ∨ w.heap.size ≤ k_)) u9000_ l0 from zF ho0 (fun k_ hk => (.inl hk)))
 have HK := yD (Kept.refl w (fun k_ => P0_ k_))
 have HW0 := yD hB.size
 have HB := yD hB
 clear hB
 have H : ((impl_pageAt.f k l0 a1_0).bind fun bt246 => (if bt246.2 = true then (if 0 ≤ bt246.1 then (if bt246.1 < (l0.length : Int) then (some (l0.set (bt246.1 : Int).toNat (⟨a1_0, a1_1⟩ : S79))) else (none)) else (none)) else ((impl_Page.f l0 bt246.1 (([(⟨a1_0, a1_1⟩ : S79)] : List (S79)))).bind fun t252 => (some t252)))) = some r := h
 clear h
 obtain ⟨⟨t246, t247⟩, A30, H⟩ := zW_ H
 replace H : (if t247 = true then (if 0 ≤ t246 then (if t246 < (l0.length : Int) then (some (l0.set (t246 : Int).toNat (⟨a1_0, a1_1⟩ : S79))) else (none)) else (none)) else ((impl_Page.f l0 t246 (([(⟨a1_0, a1_1⟩ : S79)] : List (S79)))).bind fun t252 => (some t252))) = some r := H
 have A3 := yD A30
 clear A30
 by_cases c4 : t247 = true
 ·
  subst c4
  replace H : (if 0 ≤ t246 then (if t246 < (l0.length : Int) then (some (l0.set (t246 : Int).toNat (⟨a1_0, a1_1⟩ : S79))) else (none)) else (none)) = some r := (by rw [if_pos rfl] at H; exact H)
  by_cases c5 : 0 ≤ t246
  ·
   rw [if_pos c5] at H
   have c5b0 : decide (0 ≤ t246) = true := zR c5; clear c5
   by_cases c6 : t246 < (l0.length : Int)
   ·
    rw [if_pos c6] at H
    have c6b0 : decide (t246 < (l0.length : Int)) = true := zR c6; clear c6
    obtain ⟨y248, hy248⟩ : ∃ y_ : List (S79), y_ = (l0.set (t246 : Int).toNat (⟨a1_0, a1_1⟩ : S79)) := ⟨_, rfl⟩
    replace H : (some y248) = some r := by first | (rw [hy248]; with_reducible exact H) | (have H2_ := (Option.bind_some _ _).symm.trans H; rw [hy248]; with_reducible exact H2_) | (have H2_ := (Option.bind_some _ _).symm.trans H; with_reducible exact H2_) | with_reducible exact H | (rw [hy248]; exact H) | exact H
    have Ny248 := yD hy248
    clear hy248; obtain rfl := Option.some.inj H; go_enter Try.func69, Try.ntmps69
    go_wp2_with (first | ((with_reducible refine gate_dst (N := 3) rfl ?_); refine box_event ?hg (N := 3) ?hd (cs := #[.int .i64 a1_0, .string a1_1]) (t := 79) ?hr ?_; (case hd => rfl); (case hg => rfl); (case hr => first | (go_simp; done) | (go_simp; rfl)); intro gb245 hg w8 hbox hb; replace HO0 := yD (zE (Kd.R_elderB (kA HO0) gb245 (Nat.le_of_eq hg.symm)) hb); have BK245 := yD (hbox); have GW245 := yD ((by rw [hg]; exact (by first | exact HK.out.1 | exact (show Kept w _ (fun k_ => P0_ k_) from kR5 HK).1) : w.heap.size ≤ gb245)); replace HK := yD (Kept.below (S := (fun k_ => P0_ k_)) (kR5 HK) hb); have GE245 := yD ((by rw [hg]; exact (below_size (kB HB)) : w0.heap.size ≤ gb245)); replace HB := yD (zC (kB HB) hb); clear hb hbox hg; obtain ⟨hcz9_0, hcz9_1⟩ := cz2 BK245.out; obtain ⟨hfz9_0, hfz9_1⟩ := fz2 BK245.out; obtain ⟨Ao10, co10, eo10⟩ := Kd.R_slice HO0.out; subst eo10) | ((with_reducible refine gate_callee (f := 76) rfl ?_); refine gL 11 Try.func76 #[.slice Ao10 l0.length co10, .int .i64 a1_0] ?_; (with_reducible refine (impl_pageAt.calls k _ _ l0 a1_0 t246 true _ ?side1 ?side2 A3.out).mono ?_); (case side1 => exact kV (zA HO0.out).2.2); (case side2 => exact (zA HO0.out).2.1); rintro e w11 ⟨rfl, hb⟩; refine ⟨_, rfl, ?_⟩; replace HO0 := yD (zE (kA HO0) hb); replace BK245 := yD (zB (kN BK245) hb); replace HK := yD (Kept.below (S := (fun k_ => P0_ k_)) (kR6 HK) hb); replace HB := yD (zC (kB HB) hb); clear hb; obtain ⟨hcz12_0, hcz12_1⟩ := cz2 BK245.out; obtain ⟨hfz12_0, hfz12_1⟩ := fz2 BK245.out; have p7 : 0 ≤ (t246 : Int) := zP (by assumption); have q7 : (t246 : Int) < ((l0.length : Int) : Int) := zP (by assumption); obtain ⟨go7, co7, eo7, gb7, gl7, cl7, HG7⟩ := Kd.R_form HO0.out (by omega); (first | cases eo7 | (injection eo7 with ea_ en_ ec_; (first | subst ea_ | (injection ea_ with ea_; subst ea_)); subst ec_; clear en_)); have GB7 := yD gb7; have GG7 := yD HG7; clear gb7 gl7 HG7; have HMgo7 := yD (show (P0_ go7 ∨ w.heap.size ≤ go7) from (HO0.out.1 _ rfl).1); obtain ⟨ce7, hcl7, hM7, hcc7, hfr7⟩ := Kd.R_elem HO0.out z79 (t246 : Int) p7 q7; obtain rfl := k79_openM hM7; have hx7_0 : w11.cell? ⟨go7, (t246 : Int).toNat * 2, none⟩ = some (.int .i64 ((rd_T79 l0 t246).f0)) := hcc7 0 _ rfl; have hx7_1 : w11.cell? ⟨go7, (t246 : Int).toNat * 2 + 1, none⟩ = some (.string ((rd_T79 l0 t246).f1)) := hcc7 1 _ rfl; have hf7_0 : w11.frozen? ⟨go7, (t246 : Int).toNat * 2, none⟩ = false := hfr7 0; have hf7_1 : w11.frozen? ⟨go7, (t246 : Int).toNat * 2 + 1, none⟩ = false := hfr7 1; clear hcl7 hcc7 hfr7 hM7; replace p7 := eq_true p7; replace q7 := eq_true q7; have HX13 := yD (show Kd.R k79 79 w11 w0.heap.size (fun k_ => (P0_ k_ ∨ w.heap.size ≤ k_) ∧ k_ ≠ gb245) (.slice (some ⟨go7, 0, none⟩) l0.length co10) l0 from (kA HO0)); obtain ⟨ce13, hcl13, hM13, hcc13, hfr13⟩ := Kd.R_elem HX13.out z79 (t246 : Int) (zP (by assumption)) (by have h_ : (t246 : Int) < ((l0.length : Int) : Int) := zP (by assumption); first | exact h_ | (have e_ := (zA HO0.out).1; omega) | simpa using h_); obtain rfl := k79_openM hM13; have HP13 := Kd.R_seg HX13.out (t246 : Int) (zP (by assumption)) (by have h_ : (t246 : Int) < ((l0.length : Int) : Int) := zP (by assumption); first | exact h_ | (have e_ := (zA HO0.out).1; omega) | simpa using h_) (seg := [.int .i64 a1_0, .string a1_1]) (j := 0) hcl13 hcc13 (show 2 ≤ 2 from by decide) (x' := (⟨a1_0, a1_1⟩ : S79)) (k79_mkM _ _ _ (⟨a1_0, a1_1⟩ : S79) ) (fun _ hk => hk); have hx13_0 := hcc13 0 _ rfl; (try simp only [show (k79).sz = 2 from rfl, Nat.mul_one, Nat.add_zero] at hx13_0); have hf13_0 := hfr13 0; (try simp only [show (k79).sz = 2 from rfl, Nat.mul_one, Nat.add_zero] at hf13_0); have hx13_1 := hcc13 1 _ rfl; (try simp only [show (k79).sz = 2 from rfl, Nat.mul_one, Nat.add_zero] at hx13_1); have hf13_1 := hfr13 1; (try simp only [show (k79).sz = 2 from rfl, Nat.mul_one, Nat.add_zero] at hf13_1); clear hcl13 hcc13 hfr13 hM13) | ((with_reducible refine gate_store (t := 79) (p := 18) rfl ?_); refine store_event (t := 79) (p := 18) (v := ?vo_w14) (w1 := ((w11.setCell ⟨go7, (t246 : Int).toNat * 2, none⟩ (.int .i64 a1_0)).setCell ⟨go7, (t246 : Int).toNat * 2 + 1, none⟩ (.string a1_1))) ?hg ?ho ?hn ?hr ?_; (case ho => rfl); (case hg => rfl); (case hn => rfl); (case hr => first | (go_simp; done) | (go_simp; rfl)); intro w14 hw; have hg : w11.grownBy w14 (some go7) := (by rw [hw]; exact HP13.2); have hp_ : Kd.R k79 79 w14 w0.heap.size (fun k_ => (P0_ k_ ∨ w.heap.size ≤ k_) ∧ k_ ≠ gb245) (.slice (some ⟨go7, 0, none⟩) l0.length co10) y248 := (by rw [hw, Ny248.out]; exact HP13.1); clear HP13; replace BK245 := yD (blk_grown (g := gb245) (o := .cells #[.int .i64 a1_0, .string a1_1] 79 (0, 0)) (kM BK245) hg (Kd.R_away HO0.out (fun _ hk => hk.2))); replace HB := yD ((by rw [hw]; exact yE (yE (HB.out) GB7.out) GB7.out : Below w0.heap.size w0 w14)); replace HK := yD (Kept.of_grown (S := (fun k_ => P0_ k_)) hg (kR6 HK) (fun k_ e_ => (HO0.out.1 k_ e_).1)); replace HO0 := yD (hp_); clear hg hw hp_))
    go_ret
    exact ⟨_, by first | rfl | (simp <;> rfl) | (simp [*] <;> rfl), mR HO0 (fun _ hk => hk.1), kR1 HB, kR6 HK⟩
   · rw [if_neg c6] at H
     exact absurd H (by simp)
  · rw [if_neg c5] at H
    exact absurd H (by simp)
 ·
  replace c4 := Bool.eq_false_iff.mpr c4
  subst c4
  replace H : ((impl_Page.f l0 t246 (([(⟨a1_0, a1_1⟩ : S79)] : List (S79)))).bind fun t252 => (some t252)) = some r := (by rw [if_neg (show ¬ (false = true) by decide)] at H; exact H)
  obtain ⟨y249, hy249⟩ : ∃ y_ : List (S79), y_ = (([(⟨a1_0, a1_1⟩ : S79)] : List (S79))) := ⟨_, rfl⟩
  replace H : ((impl_Page.f l0 t246 y249).bind fun t252 => (some t252)) = some r := by first | (rw [hy249]; with_reducible exact H) | (have H2_ := (Option.bind_some _ _).symm.trans H; rw [hy249]; with_reducible exact H2_) | (have H2_ := (Option.bind_some _ _).symm.trans H; with_reducible exact H2_) | with_reducible exact H | (rw [hy249]; exact H) | exact H
  have Ny249 := yD hy249
  clear hy249
  obtain ⟨t252, A150, H⟩ := zW_ H
  replace H : (some t252) = some r := H
  have A15 := yD A150
  clear A150; obtain rfl := Option.some.inj H; go_enter Try.func69, Try.ntmps69
  go_wp2_with (first | ((with_reducible refine gate_dst (N := 3) rfl ?_); refine box_event ?hg (N := 3) ?hd (cs := #[.int .i64 a1_0, .string a1_1]) (t := 79) ?hr ?_; (case hd => rfl); (case hg => rfl); (case hr => first | (go_simp; done) | (go_simp; rfl)); intro gb245 hg w16 hbox hb; replace HO0 := yD (zE (Kd.R_elderB (kA HO0) gb245 (Nat.le_of_eq hg.symm)) hb); have BK245 := yD (hbox); have GW245 := yD ((by rw [hg]; exact (by first | exact HK.out.1 | exact (show Kept w _ (fun k_ => P0_ k_) from kR5 HK).1) : w.heap.size ≤ gb245)); replace HK := yD (Kept.below (S := (fun k_ => P0_ k_)) (kR5 HK) hb); have GE245 := yD ((by rw [hg]; exact (below_size (kB HB)) : w0.heap.size ≤ gb245)); replace HB := yD (zC (kB HB) hb); clear hb hbox hg; obtain ⟨hcz17_0, hcz17_1⟩ := cz2 BK245.out; obtain ⟨hfz17_0, hfz17_1⟩ := fz2 BK245.out; obtain ⟨Ao18, co18, eo18⟩ := Kd.R_slice HO0.out; subst eo18) | ((with_reducible refine gate_callee (f := 76) rfl ?_); refine gL 11 Try.func76 #[.slice Ao18 l0.length co18, .int .i64 a1_0] ?_; (with_reducible refine (impl_pageAt.calls k _ _ l0 a1_0 t246 false _ ?side1 ?side2 A3.out).mono ?_); (case side1 => exact kV (zA HO0.out).2.2); (case side2 => exact (zA HO0.out).2.1); rintro e w19 ⟨rfl, hb⟩; refine ⟨_, rfl, ?_⟩; replace HO0 := yD (zE (kA HO0) hb); replace BK245 := yD (zB (kN BK245) hb); replace HK := yD (Kept.below (S := (fun k_ => P0_ k_)) (kR6 HK) hb); replace HB := yD (zC (kB HB) hb); clear hb; obtain ⟨hcz20_0, hcz20_1⟩ := cz2 BK245.out; obtain ⟨hfz20_0, hfz20_1⟩ := fz2 BK245.out) | ((with_reducible refine gate_dst (N := 23) rfl ?_); refine Kd.R_lit k79 _ 79 ?hg (N := 23) ?hd (xs := ([(⟨a1_0, a1_1⟩ : S79)] : List (S79))) (inner := [.int .i64 a1_0, .string a1_1]) (ok := fun _ => True) (okp := fun _ => True) ?hr ?hp (fun _ hk => hk) trivial (Below.refl _ _) (Nat.le_refl _) (by simp) ?_; (case hd => rfl); (case hg => rfl); (case hr => first | (go_simp; done) | (go_simp; rfl)); (case hp => exact (Reps.c2 (show Kd.M k79 _ _ _ (⟨a1_0, a1_1⟩ : S79) [.int .i64 a1_0, .string a1_1] from (k79_mkM _ _ _ (⟨a1_0, a1_1⟩ : S79) )) (Reps.none _ _))); intro v250 w21 ho22 hb hg_ hnew_; clear hg_ hnew_; (first | rw [← Ny249.out] at ho22 | (simp only [Int.reduceToNat] at ho22; rw [← Ny249.out] at ho22)); have HO251 := yD (yZ (Kd.R_newB (yJ (Kd.R_newM (M := fun k_ => (P0_ k_ ∨ w.heap.size ≤ k_)) ho22 (by first | exact HK.out.1 | exact (show Kept w _ (fun k_ => P0_ k_) from kR6 HK).1) (fun k_ h_ => .inr h_)) (yK (kA HO0))) (g := gb245) (o := .cells #[.int .i64 a1_0, .string a1_1] 79 (0, 0)) (kM BK245)) (below_size (kB HB))); replace HO0 := yD (Kd.R_elder' (kA HO0) (yH ho22) hb); replace BK245 := yD (zB (kN BK245) hb); replace HK := yD (Kept.below (S := (fun k_ => P0_ k_)) (kR6 HK) hb); replace HB := yD (zC (kB HB) hb); clear hb ho22; obtain ⟨Ao23, co23, eo23⟩ := Kd.R_slice HO251.out; subst eo23) | ((with_reducible refine gate_callee (f := 77) rfl ?_); refine gL 24 Try.func77 #[.slice Ao18 l0.length co18, .int .i64 t246, .slice Ao23 y249.length co23] ?_; (with_reducible refine (impl_Page.calls (fun k_ => some k_ = (.slice Ao18 l0.length co18 : Value).ownBlock) (.slice Ao18 l0.length co18) l0 t246 (fun k_ => some k_ = (.slice Ao23 y249.length co23 : Value).ownBlock) (.slice Ao23 y249.length co23) y249 t252 w0 _ ?side1 ?side2 ?side3 ?side4 ?side5 A15.out).mono ?_); (case side1 => exact kR1 HB); (case side2 => exact Kd.R_tight rfl HO0.out); (case side3 => exact fun k_ e_ => (HO0.out.1 k_ e_.symm).2); (case side4 => exact Kd.R_tight rfl HO251.out); (case side5 => exact fun k_ e_ => (HO251.out.1 k_ e_.symm).1.2); rintro e w24 ⟨v253, rfl, ho0, hb, hkp⟩; refine ⟨_, rfl, ?_⟩; have HO254 := yD (zF (ok' := fun k_ => (P0_ k_ ∨ w.heap.size ≤ k_) ∧ k_ ≠ gb245) ho0 (fun k_ hk_ => ⟨Or.elim hk_ (fun hs_ => Or.elim hs_ (fun hs_ => (HO0.out.1 k_ (hs_).symm).1.1) (fun hs_ => (HO251.out.1 k_ (hs_).symm).1.1.1)) (fun hn_ => (.inr (Nat.le_trans (by first | exact HK.out.1 | exact (show Kept w _ (fun k_ => P0_ k_) from kR6 HK).1) hn_))), Or.elim hk_ (fun hs_ => Or.elim hs_ (fun hs_ => fun e_ => (Kd.R_away HO0.out (fun _ hk => hk.1.2)) (by rw [← e_]; exact hs_)) (fun hs_ => fun e_ => (Kd.R_away HO251.out (fun _ hk => hk.2)) (by rw [← e_]; exact hs_))) (fun hn_ => (Kd.freshB (g := gb245) (o := .cells #[.int .i64 a1_0, .string a1_1] 79 (0, 0)) (kM BK245) k_ hn_))⟩)); replace BK245 := yD (blk_kept (kM BK245) hkp (fun hs_ => Or.elim hs_ (fun e_ => (fun e_ => (Kd.R_away HO0.out (fun _ hk => hk.1.2)) e_) e_) (fun e_ => (fun e_ => (Kd.R_away HO251.out (fun _ hk => hk.2)) e_) e_))); replace HK := yD (Kept.then_ (S := (fun k_ => P0_ k_)) (kR6 HK) hkp (fun k_ hs_ => Or.elim hs_ (fun e_ => (fun e_ => (HO0.out.1 k_ e_.symm).1.1) e_) (fun e_ => (fun e_ => (HO251.out.1 k_ e_.symm).1.1.1) e_))); replace HB := yD (hb); clear HO0 HO251; clear hb hkp ho0))
  go_ret
  exact ⟨_, by first | rfl | (simp <;> rfl) | (simp [*] <;> rfl), mR HO254 (fun _ hk => hk.1), kR1 HB, kR6 HK⟩

/-! ### impl_merged: function 53 -/
def impl_merged.l0 : Nat → List (S79) → List (S79) → Int → Int → Option ((List (S79)))
 | 0, _, _, _, _ => none
 | k + 1, x5, x10, x11, x12 => if x12 < x11 then (if 0 ≤ x12 then (if x12 < (x10.length : Int) then ((impl_putPage.f k x5 ((rd_T79 x10 x12).f0) ((rd_T79 x10 x12).f1)).bind fun t260 => (impl_merged.l0 k t260 x10 x11 (wrap64 (x12 + 1)))) else (none)) else (none)) else (some x5)
def impl_merged.f (k : Nat) (l0 : List (S79)) (l1 : List (S79)) : Option ((List (S79))) := (slices_Clone_impl_Page_impl_Page.f l0).bind fun t255 => (impl_merged.l0 k t255 l1 (l1.length : Int) 0)
theorem impl_merged.mono_l : ∀ k, (∀ y0 y1 y2 y3, LeO (impl_merged.l0 k y0 y1 y2 y3) (impl_merged.l0 (k + 1) y0 y1 y2 y3))
 | 0 => fun _ _ _ _ r h => by simp [impl_merged.l0] at h
 | k + 1 => by
  have ih0 := impl_merged.mono_l k
  · intro y0 y1 y2 y3
    unfold impl_merged.l0
    repeat' (with_reducible first | exact ih0 _ _ _ _ | exact impl_putPage.mono _ _ _ _ | exact LeO.refl _ | exact LeO.none _ | refine LeO.ite ?_ ?_ | refine LeO.bind ?_ (fun _ => ?_))
theorem impl_merged.mono : ∀ a0 a1 k, LeO (impl_merged.f k a0 a1) (impl_merged.f (k + 1) a0 a1) := by
 intro a0 a1 k
 have ih0 := impl_merged.mono_l k
 unfold impl_merged.f
 repeat' (with_reducible first | exact ih0 _ _ _ _ | exact impl_putPage.mono _ _ _ _ | exact LeO.refl _ | exact LeO.none _ | refine LeO.ite ?_ ?_ | refine LeO.bind ?_ (fun _ => ?_))
set_option maxHeartbeats 8000000 in
set_option maxRecDepth 100000 in
theorem impl_merged.calls (k : Nat) (A0 : Option Addr) (c0 : Nat) (l0 : List (S79)) (A1 : Option Addr) (c1 : Nat) (l1 : List (S79)) (r : List (S79)) (w : World) (hr0 : Kd.C k79 w A0 l0.length l0) (hc0 : l0.length ≤ c0) (hr1 : Kd.C k79 w A1 l1.length l1) (hc1 : l1.length ≤ c1) (h : impl_merged.f k l0 l1 = some r) :
 Calls Try.prog 53 #[.slice A0 l0.length c0, .slice A1 l1.length c1] w fun e w' => ∃ v0_ : Value, e = .returned (v0_) ∧ Kd.R k79 79 w' w.heap.size (fun _ => True) v0_ r ∧ Below w.heap.size w w' := by
 have hu79 := Try.underlying79
 have HR0 := yD hr0
 have HC0 := yD hc0
 clear hr0 hc0
 have HR1 := yD hr1
 have HC1 := yD hc1
 clear hr1 hc1
 have HB := yD (Below.refl w.heap.size w)
 have H : ((slices_Clone_impl_Page_impl_Page.f l0).bind fun t255 => (impl_merged.l0 k t255 l1 (l1.length : Int) 0)) = some r := h
 clear h
 obtain ⟨t255, A30, H⟩ := zW_ H
 replace H : (impl_merged.l0 k t255 l1 (l1.length : Int) 0) = some r := H
 have A3 := yD A30
 clear A30
 have H' := yD H
 clear H; go_enter Try.func53, Try.ntmps53
 go_wp2_with (first | ((with_reducible refine gate_callee (f := 68) rfl ?_); refine gL 9 Try.func68 #[.slice A0 l0.length c0] ?_; (with_reducible refine (slices_Clone_impl_Page_impl_Page.calls _ _ l0 t255 _ ?side1 ?side2 A3.out).mono ?_); (case side1 => repeat (first | exact HR0.out | (with_reducible first | refine yV ?_ _ | refine yW ?_ _ | refine yX ?_))); (case side2 => exact HC0.out); rintro e w4 ⟨v256, rfl, ho0, hb⟩; refine ⟨_, rfl, ?_⟩; have HO257 := yD (yZ ho0 (below_size (kB HB))); replace HB := yD (zC (kB HB) hb); clear hb ho0))
 (try simp only [Act.put, zH, zI, zJ])
 go_loopg [5, 12] k (fun kq v5 v12 w' => ∃ (x5_1 : List (S79)) (x12_1 : Int), v12 = .int .i64 x12_1 ∧ Aside0 (impl_merged.l0 kq x5_1 l1 (l1.length : Int) x12_1 = some r) ∧ Aside0 (kq ≤ k) ∧ Aside0 (Kd.R k79 79 w' w.heap.size (fun _ => True) v5 x5_1) ∧ Aside0 (Below w.heap.size w w'))
 case atStart => exact ⟨(t255), (0), (by first | rfl | (simp; done) | (simp [*]; done)), H', ⟨Nat.le_refl _⟩, ⟨kA HO257⟩, ⟨kR0 HB⟩⟩
 case round =>
  clear H'
  try clear c1
  obtain ⟨x5_1, x12_1, rfl, HA, HK1, HO_5, HB⟩ := hrel
  cases gk with
  | zero => exact absurd HA.out (by simp [impl_merged.l0])
  | succ k1 =>
   have H := HA.out; clear HA
   simp only [impl_merged.l0] at H
   by_cases c5 : x12_1 < (l1.length : Int)
   ·
    rw [if_pos c5] at H
    have c5b0 : decide (x12_1 < (l1.length : Int)) = true := zR c5; clear c5
    by_cases c6 : 0 ≤ x12_1
    ·
     rw [if_pos c6] at H
     have c6b0 : decide (0 ≤ x12_1) = true := zR c6; clear c6
     by_cases c7 : x12_1 < (l1.length : Int)
     ·
      rw [if_pos c7] at H
      have c7b0 : decide (x12_1 < (l1.length : Int)) = true := zR c7; clear c7
      obtain ⟨t260, A80, H⟩ := zW_ H
      replace H : (impl_merged.l0 k1 t260 l1 (l1.length : Int) (wrap64 (x12_1 + 1))) = some r := H
      have A8 := yD A80
      clear A80
      have H' := yD H
      clear H
      have p258 : 0 ≤ (x12_1 : Int) := zP (by assumption)
      have q258 : x12_1 < (l1.length : Int) := zP (by assumption)
      obtain ⟨ad258, e258, hx258_0, hx258_1⟩ := at_T79 HR1.out x12_1 p258 q258
      cases e258
      replace hx258_0 := (HB.out.cell (zQ w _ hx258_0)).trans hx258_0
      replace hx258_1 := (HB.out.cell (zQ w _ hx258_1)).trans hx258_1
      replace p258 := eq_true p258; replace q258 := eq_true q258
      go_wp2_with (first | ((with_reducible refine gate_dst (N := 7) rfl ?_); refine box_event ?hg (N := 7) ?hd (cs := #[.int .i64 0, .string (⟨#[]⟩ : ByteArray)]) (t := 79) ?hr ?_; (case hd => rfl); (case hg => rfl); (case hr => first | (go_simp; done) | (go_simp; rfl)); intro gb259 hg w9 hbox hb; replace HO_5 := yD (zE (Kd.R_elderB (kA HO_5) gb259 (Nat.le_of_eq hg.symm)) hb); have BK259 := yD (hbox); have GW259 := yD ((by rw [hg]; exact (below_size (kB HB)) : w.heap.size ≤ gb259)); have GE259 := yD ((by rw [hg]; exact (below_size (kB HB)) : w.heap.size ≤ gb259)); replace HB := yD (zC (kB HB) hb); clear hb hbox hg; obtain ⟨hcz10_0, hcz10_1⟩ := cz2 BK259.out; obtain ⟨hfz10_0, hfz10_1⟩ := fz2 BK259.out) | ((with_reducible refine gate_store (t := 79) (p := 7) rfl ?_); refine store_event (t := 79) (p := 7) (v := ?vo_w11) (w1 := ((w9.setCell ⟨gb259, 0, none⟩ (.int .i64 ((rd_T79 l1 x12_1).f0))).setCell ⟨gb259, 1, none⟩ (.string ((rd_T79 l1 x12_1).f1)))) ?hg ?ho ?hn ?hr ?_; (case ho => rfl); (case hg => rfl); (case hn => rfl); (case hr => first | (go_simp; done) | (go_simp; rfl)); intro w11 hw; have n0_ : Aside0 (Kd.R k79 79 w11 w.heap.size (fun k_ => k_ ≠ gb259) u5 x5_1) := ⟨(by rw [hw]; exact (by (with_reducible repeat (first | apply yA | apply yB | apply yC)); exact zF (yF (p := ⟨gb259, 1, none⟩) (yF (p := ⟨gb259, 0, none⟩) (zF HO_5.out (fun k_ hk => (⟨hk, hk.2⟩ : _ ∧ k_ ≠ gb259))) (fun _ hk => hk.2) (.int .i64 ((rd_T79 l1 x12_1).f0))) (fun _ hk => hk.2) (.string ((rd_T79 l1 x12_1).f1))) (fun _ hk => hk.1.2)))⟩; have n1_ : Aside0 (w11.heap[gb259]? = some (.cells #[.int .i64 ((rd_T79 l1 x12_1).f0), .string ((rd_T79 l1 x12_1).f1)] 79 (0, 0))) := ⟨(by rw [hw]; exact (by (with_reducible repeat (first | refine yM ?_ _ | refine yO ?_ | refine yN ?_ _)); refine blk_put (cs := #[.int .i64 ((rd_T79 l1 x12_1).f0), .string (⟨#[]⟩ : ByteArray)]) ?_ 1 _ rfl; (with_reducible repeat (first | refine yM ?_ _ | refine yO ?_ | refine yN ?_ _)); refine blk_put (cs := #[.int .i64 0, .string (⟨#[]⟩ : ByteArray)]) ?_ 0 _ rfl; (with_reducible repeat (first | refine yM ?_ _ | refine yO ?_ | refine yN ?_ _)); exact BK259.out))⟩; have n2_ : Aside0 (Below w.heap.size w w11) := ⟨(by rw [hw]; exact (kB HB))⟩; clear hw; clear HO_5; clear BK259; clear HB; have HO_5 := n0_; have BK259 := n1_; have HB := n2_; clear n0_ n1_ n2_; obtain ⟨hcz12_0, hcz12_1⟩ := cz2 BK259.out; obtain ⟨hfz12_0, hfz12_1⟩ := fz2 BK259.out; obtain ⟨Ao13, co13, eo13⟩ := Kd.R_slice HO_5.out; subst eo13) | ((with_reducible refine gate_callee (f := 69) rfl ?_); refine gL 18 Try.func69 #[.slice Ao13 x5_1.length co13, .agg #[.int .i64 ((rd_T79 l1 x12_1).f0), .string ((rd_T79 l1 x12_1).f1)]] ?_; (with_reducible refine (impl_putPage.calls k1 (fun k_ => some k_ = (.slice Ao13 x5_1.length co13 : Value).ownBlock) (.slice Ao13 x5_1.length co13) x5_1 ((rd_T79 l1 x12_1).f0) ((rd_T79 l1 x12_1).f1) t260 w _ ?side1 ?side2 A8.out).mono ?_); (case side1 => exact kR1 HB); (case side2 => exact Kd.R_tight rfl HO_5.out); rintro e w14 ⟨v261, rfl, ho0, hb, hkp⟩; refine ⟨_, rfl, ?_⟩; have HO262 := yD (zF (ok' := fun k_ => k_ ≠ gb259) ho0 (fun k_ hk_ => Or.elim hk_ (fun hs_ => fun e_ => (Kd.R_away HO_5.out (fun _ hk => hk)) (by rw [← e_]; exact hs_)) (fun hn_ => (Kd.freshB (g := gb259) (o := .cells #[.int .i64 ((rd_T79 l1 x12_1).f0), .string ((rd_T79 l1 x12_1).f1)] 79 (0, 0)) (kM BK259) k_ hn_)))); replace BK259 := yD (blk_kept (kM BK259) hkp (fun hs_ => (fun e_ => (Kd.R_away HO_5.out (fun _ hk => hk)) e_) hs_)); replace HB := yD (hb); clear HO_5; clear hb hkp ho0))
      go_roundg k1
      case measure => have := HK1.out; omega
      case rel => exact ⟨(t260), (wrap64 (x12_1 + 1)), (by first | rfl | (simp; done) | (simp [*]; done)), H', ⟨by have := HK1.out; omega⟩, ⟨mR HO262 (fun _ hk => trivial)⟩, ⟨kR1 HB⟩⟩
     · rw [if_neg c7] at H
       exact absurd H (by simp)
    · rw [if_neg c6] at H
      exact absurd H (by simp)
   · rw [if_neg c5] at H
     have c5b0 : decide (x12_1 < (l1.length : Int)) = false := zS c5; clear c5; obtain rfl := Option.some.inj H
     go_wp2
     go_ret
     exact ⟨_, by first | rfl | (simp <;> rfl) | (simp [*] <;> rfl), kA HO_5, kR0 HB⟩

/-! ### impl_MergePages: function 15 -/
def impl_MergePages.f (k : Nat) (l0 : List (S79)) (l1 : List (S79)) : Option ((List (S79))) := (impl_ValidPages.f k l0).bind fun t263 => (if t263 = true then ((impl_ValidPages.f k l1).bind fun t264 => (if t264 = true then ((impl_merged.f k l0 l1).bind fun t265 => (some t265)) else (some ([] : List (S79))))) else (some ([] : List (S79))))
theorem impl_MergePages.mono : ∀ a0 a1 k, LeO (impl_MergePages.f k a0 a1) (impl_MergePages.f (k + 1) a0 a1) := by
 intro a0 a1 k
 unfold impl_MergePages.f
 repeat' (with_reducible first | exact impl_ValidPages.mono _ _ | exact impl_merged.mono _ _ _ | exact LeO.refl _ | exact LeO.none _ | refine LeO.ite ?_ ?_ | refine LeO.bind ?_ (fun _ => ?_))
set_option maxHeartbeats 8000000 in
set_option maxRecDepth 100000 in
theorem impl_MergePages.calls (k : Nat) (A0 : Option Addr) (c0 : Nat) (l0 : List (S79)) (A1 : Option Addr) (c1 : Nat) (l1 : List (S79)) (r : List (S79)) (w : World) (hr0 : Kd.C k79 w A0 l0.length l0) (hc0 : l0.length ≤ c0) (hr1 : Kd.C k79 w A1 l1.length l1) (hc1 : l1.length ≤ c1) (h : impl_MergePages.f k l0 l1 = some r) :
 Calls Try.prog 15 #[.slice A0 l0.length c0, .slice A1 l1.length c1] w fun e w' => ∃ v0_ : Value, e = .returned (v0_) ∧ Kd.R k79 79 w' w.heap.size (fun _ => True) v0_ r ∧ Below w.heap.size w w' := by
 have HR0 := yD hr0
 have HC0 := yD hc0
 clear hr0 hc0
 have HR1 := yD hr1
 have HC1 := yD hc1
 clear hr1 hc1
 have HB := yD (Below.refl w.heap.size w)
 have H : ((impl_ValidPages.f k l0).bind fun t263 => (if t263 = true then ((impl_ValidPages.f k l1).bind fun t264 => (if t264 = true then ((impl_merged.f k l0 l1).bind fun t265 => (some t265)) else (some ([] : List (S79))))) else (some ([] : List (S79))))) = some r := h
 clear h
 obtain ⟨t263, A30, H⟩ := zW_ H
 replace H : (if t263 = true then ((impl_ValidPages.f k l1).bind fun t264 => (if t264 = true then ((impl_merged.f k l0 l1).bind fun t265 => (some t265)) else (some ([] : List (S79))))) else (some ([] : List (S79)))) = some r := H
 have A3 := yD A30
 clear A30
 by_cases c4 : t263 = true
 ·
  subst c4
  replace H : ((impl_ValidPages.f k l1).bind fun t264 => (if t264 = true then ((impl_merged.f k l0 l1).bind fun t265 => (some t265)) else (some ([] : List (S79))))) = some r := (by rw [if_pos rfl] at H; exact H)
  obtain ⟨t264, A50, H⟩ := zW_ H
  replace H : (if t264 = true then ((impl_merged.f k l0 l1).bind fun t265 => (some t265)) else (some ([] : List (S79)))) = some r := H
  have A5 := yD A50
  clear A50
  by_cases c6 : t264 = true
  ·
   subst c6
   replace H : ((impl_merged.f k l0 l1).bind fun t265 => (some t265)) = some r := (by rw [if_pos rfl] at H; exact H)
   obtain ⟨t265, A70, H⟩ := zW_ H
   replace H : (some t265) = some r := H
   have A7 := yD A70
   clear A70; obtain rfl := Option.some.inj H; go_enter Try.func15, Try.ntmps15
   go_wp2_with (first | ((with_reducible refine gate_callee (f := 52) rfl ?_); refine gL 6 Try.func52 #[.slice A0 l0.length c0] ?_; (with_reducible refine (impl_ValidPages.calls k _ _ l0 true _ ?side1 ?side2 A3.out).mono ?_); (case side1 => repeat (first | exact HR0.out | (with_reducible first | refine yV ?_ _ | refine yW ?_ _ | refine yX ?_))); (case side2 => exact HC0.out); rintro e w8 ⟨rfl, hb⟩; refine ⟨_, rfl, ?_⟩; replace HB := yD (zC (kB HB) hb); clear hb) | (go_at_call 52; (with_reducible refine (impl_ValidPages.calls k _ _ l1 true _ ?side1 ?side2 A5.out).mono ?_); (case side1 => exact kV (yY HR1.out HB.out)); (case side2 => exact HC1.out); rintro e w9 ⟨rfl, hb⟩; replace HB := yD (zC (kB HB) hb); clear hb) | ((with_reducible refine gate_callee (f := 53) rfl ?_); refine gL 15 Try.func53 #[.slice A0 l0.length c0, .slice A1 l1.length c1] ?_; (with_reducible refine (impl_merged.calls k _ _ l0 _ _ l1 t265 _ ?side1 ?side2 ?side3 ?side4 A7.out).mono ?_); (case side1 => exact kV (yY HR0.out HB.out)); (case side2 => exact HC0.out); (case side3 => exact kV (yY HR1.out HB.out)); (case side4 => exact HC1.out); rintro e w10 ⟨v266, rfl, ho0, hb⟩; refine ⟨_, rfl, ?_⟩; have HO267 := yD (yZ ho0 (below_size (kB HB))); replace HB := yD (zC (kB HB) hb); clear hb ho0))
   go_ret
   exact ⟨_, by first | rfl | (simp <;> rfl) | (simp [*] <;> rfl), kA HO267, kR0 HB⟩
  · replace c6 := Bool.eq_false_iff.mpr c6
    subst c6
    replace H : (some ([] : List (S79))) = some r := (by rw [if_neg (show ¬ (false = true) by decide)] at H; exact H); obtain rfl := Option.some.inj H; go_enter Try.func15, Try.ntmps15
    go_wp2_with (first | ((with_reducible refine gate_callee (f := 52) rfl ?_); refine gL 6 Try.func52 #[.slice A0 l0.length c0] ?_; (with_reducible refine (impl_ValidPages.calls k _ _ l0 true _ ?side1 ?side2 A3.out).mono ?_); (case side1 => repeat (first | exact HR0.out | (with_reducible first | refine yV ?_ _ | refine yW ?_ _ | refine yX ?_))); (case side2 => exact HC0.out); rintro e w11 ⟨rfl, hb⟩; refine ⟨_, rfl, ?_⟩; replace HB := yD (zC (kB HB) hb); clear hb) | (go_at_call 52; (with_reducible refine (impl_ValidPages.calls k _ _ l1 false _ ?side1 ?side2 A5.out).mono ?_); (case side1 => exact kV (yY HR1.out HB.out)); (case side2 => exact HC1.out); rintro e w12 ⟨rfl, hb⟩; replace HB := yD (zC (kB HB) hb); clear hb))
    go_ret
    exact ⟨_, by first | rfl | (simp <;> rfl) | (simp [*] <;> rfl), by first | exact Kd.R_nil _ _ _ _ _ | exact Kd.N_nil _ _ _ _ _ | exact Kd.V_nil _ _ _ _ _ | exact Kd.Q_nil _ _ _ _ _ | exact Kd.S_nil _ _ _ _ _, kR0 HB⟩
 ·
  replace c4 := Bool.eq_false_iff.mpr c4
  subst c4
  replace H : (some ([] : List (S79))) = some r := (by rw [if_neg (show ¬ (false = true) by decide)] at H; exact H); obtain rfl := Option.some.inj H; go_enter Try.func15, Try.ntmps15
  go_wp2_with (first | ((with_reducible refine gate_callee (f := 52) rfl ?_); refine gL 6 Try.func52 #[.slice A0 l0.length c0] ?_; (with_reducible refine (impl_ValidPages.calls k _ _ l0 false _ ?side1 ?side2 A3.out).mono ?_); (case side1 => repeat (first | exact HR0.out | (with_reducible first | refine yV ?_ _ | refine yW ?_ _ | refine yX ?_))); (case side2 => exact HC0.out); rintro e w13 ⟨rfl, hb⟩; refine ⟨_, rfl, ?_⟩; replace HB := yD (zC (kB HB) hb); clear hb))
  go_ret
  exact ⟨_, by first | rfl | (simp <;> rfl) | (simp [*] <;> rfl), by first | exact Kd.R_nil _ _ _ _ _ | exact Kd.N_nil _ _ _ _ _ | exact Kd.V_nil _ _ _ _ _ | exact Kd.Q_nil _ _ _ _ _ | exact Kd.S_nil _ _ _ _ _, kR0 HB⟩

/-! ### spec_l11Find: function 58 -/
def spec_l11Find.l0 : Nat → List (S79) → Int → Int → Option (Int)
 | 0, _, _, _ => none
 | k + 1, x0, x1, x5 => if x5 < (x0.length : Int) then (if 0 ≤ x5 then (if ((rd_T79 x0 x5).f0) = x1 then (some x5) else (spec_l11Find.l0 k x0 x1 (wrap64 (x5 + 1)))) else (none)) else (some (-1))
def spec_l11Find.f (k : Nat) (l0 : List (S79)) (a1 : Int) : Option (Int) := spec_l11Find.l0 k l0 a1 0
theorem spec_l11Find.mono_l : ∀ k, (∀ y0 y1 y2, LeO (spec_l11Find.l0 k y0 y1 y2) (spec_l11Find.l0 (k + 1) y0 y1 y2))
 | 0 => fun _ _ _ r h => by simp [spec_l11Find.l0] at h
 | k + 1 => by
  have ih0 := spec_l11Find.mono_l k
  · intro y0 y1 y2
    unfold spec_l11Find.l0
    repeat' (with_reducible first | exact ih0 _ _ _ | exact LeO.refl _ | exact LeO.none _ | refine LeO.ite ?_ ?_ | refine LeO.bind ?_ (fun _ => ?_))
theorem spec_l11Find.mono : ∀ a0 a1 k, LeO (spec_l11Find.f k a0 a1) (spec_l11Find.f (k + 1) a0 a1) := by
 intro a0 a1 k
 have ih0 := spec_l11Find.mono_l k
 unfold spec_l11Find.f
 repeat' (with_reducible first | exact ih0 _ _ _ | exact LeO.refl _ | exact LeO.none _ | refine LeO.ite ?_ ?_ | refine LeO.bind ?_ (fun _ => ?_))
set_option maxHeartbeats 8000000 in
set_option maxRecDepth 100000 in
theorem spec_l11Find.calls (k : Nat) (A0 : Option Addr) (c0 : Nat) (l0 : List (S79)) (a1 : Int) (r : Int) (w : World) (hr0 : Kd.C k79 w A0 l0.length l0) (hc0 : l0.length ≤ c0) (h : spec_l11Find.f k l0 a1 = some r) :
 Calls Try.prog 58 #[.slice A0 l0.length c0, .int .i64 a1] w fun e w' => e = .returned (.int .i64 r) ∧ Drawn0 w w' := by
 have HR0 := yD hr0
 have HC0 := yD hc0
 clear hr0 hc0
 have H : (spec_l11Find.l0 k l0 a1 0) = some r := h
 clear h
 have H' := yD H
 clear H; go_enter Try.func58, Try.ntmps58
 go_wp2
 go_loopg [5] k (fun kq v5 w' => ∃ (x5_1 : Int), v5 = .int .i64 x5_1 ∧ Aside0 (spec_l11Find.l0 kq l0 a1 x5_1 = some r) ∧ Aside0 (kq ≤ k) ∧ Drawn0 w w')
 case atStart => exact ⟨(0), (by first | rfl | (simp; done) | (simp [*]; done)), H', ⟨Nat.le_refl _⟩, by repeat (first | exact Drawn0.refl _ | apply Drawn0.step)⟩
 case round =>
  clear H'
  try clear p2
  obtain ⟨x5_1, rfl, HA, HK1, ⟨m1, rfl⟩⟩ := hrel
  cases gk with
  | zero => exact absurd HA.out (by simp [spec_l11Find.l0])
  | succ k1 =>
   have H := HA.out; clear HA
   simp only [spec_l11Find.l0] at H
   by_cases c3 : x5_1 < (l0.length : Int)
   ·
    rw [if_pos c3] at H
    have c3b0 : decide (x5_1 < (l0.length : Int)) = true := zR c3; clear c3
    by_cases c4 : 0 ≤ x5_1
    ·
     rw [if_pos c4] at H
     have c4b0 : decide (0 ≤ x5_1) = true := zR c4; clear c4
     by_cases c5 : ((rd_T79 l0 x5_1).f0) = a1
     ·
      rw [if_pos c5] at H
      have c5b0 : (((rd_T79 l0 x5_1).f0) == a1) = true := beq_iff_eq.mpr c5
      have c5b1 : (((rd_T79 l0 x5_1).f0) != a1) = false := bne_eq_false_iff_eq.mpr c5
      clear c5; obtain rfl := Option.some.inj H
      have p268 : 0 ≤ (x5_1 : Int) := zP (by assumption)
      have q268 : x5_1 < (l0.length : Int) := zP (by assumption)
      obtain ⟨ad268, e268, hx268_0, hx268_1⟩ := at_T79 HR0.out x5_1 p268 q268
      cases e268; replace p268 := eq_true p268; replace q268 := eq_true q268
      go_wp2
      go_ret
      exact ⟨by first | rfl | (simp; done) | (simp [*]; done), by repeat (first | exact Drawn0.refl _ | apply Drawn0.step)⟩
     ·
      rw [if_neg c5] at H
      have c5b0 : (((rd_T79 l0 x5_1).f0) == a1) = false := beq_eq_false_iff_ne.mpr c5
      have c5b1 : (((rd_T79 l0 x5_1).f0) != a1) = true := bne_iff_ne.mpr c5
      have H' := yD H
      clear H
      have p268 : 0 ≤ (x5_1 : Int) := zP (by assumption)
      have q268 : x5_1 < (l0.length : Int) := zP (by assumption)
      obtain ⟨ad268, e268, hx268_0, hx268_1⟩ := at_T79 HR0.out x5_1 p268 q268
      cases e268; replace p268 := eq_true p268; replace q268 := eq_true q268
      go_wp2
      go_roundg k1
      case measure => have := HK1.out; omega
      case rel => exact ⟨(wrap64 (x5_1 + 1)), (by first | rfl | (simp; done) | (simp [*]; done)), H', ⟨by have := HK1.out; omega⟩, by repeat (first | exact Drawn0.refl _ | apply Drawn0.step)⟩
    · rw [if_neg c4] at H
      exact absurd H (by simp)
   · rw [if_neg c3] at H
     have c3b0 : decide (x5_1 < (l0.length : Int)) = false := zS c3; clear c3; obtain rfl := Option.some.inj H
     go_wp2
     go_ret
     exact ⟨by first | rfl | (simp; done) | (simp [*]; done), by repeat (first | exact Drawn0.refl _ | apply Drawn0.step)⟩

/-! ### spec_PageOf: function 22 -/
def spec_PageOf.f (k : Nat) (l0 : List (S79)) (a1 : Int) : Option (ByteArray × Bool) := (spec_l11Find.f k l0 a1).bind fun t269 => (if t269 < 0 then (some ((⟨#[]⟩ : ByteArray), false)) else (if 0 ≤ t269 then (if t269 < (l0.length : Int) then (some ((rd_T79 l0 t269).f1, true)) else (none)) else (none)))
theorem spec_PageOf.mono : ∀ a0 a1 k, LeO (spec_PageOf.f k a0 a1) (spec_PageOf.f (k + 1) a0 a1) := by
 intro a0 a1 k
 unfold spec_PageOf.f
 repeat' (with_reducible first | exact spec_l11Find.mono _ _ _ | exact LeO.refl _ | exact LeO.none _ | refine LeO.ite ?_ ?_ | refine LeO.bind ?_ (fun _ => ?_))
set_option maxHeartbeats 8000000 in
set_option maxRecDepth 100000 in
theorem spec_PageOf.calls (k : Nat) (A0 : Option Addr) (c0 : Nat) (l0 : List (S79)) (a1 : Int) (r1 : ByteArray) (r2 : Bool) (w : World) (hr0 : Kd.C k79 w A0 l0.length l0) (hc0 : l0.length ≤ c0) (h : spec_PageOf.f k l0 a1 = some (r1, r2)) :
 Calls Try.prog 22 #[.slice A0 l0.length c0, .int .i64 a1] w fun e w' => e = .returned (.tuple #[.string r1, .bool r2]) ∧ Drawn0 w w' := by
 have HR0 := yD hr0
 have HC0 := yD hc0
 clear hr0 hc0
 have H : ((spec_l11Find.f k l0 a1).bind fun t269 => (if t269 < 0 then (some ((⟨#[]⟩ : ByteArray), false)) else (if 0 ≤ t269 then (if t269 < (l0.length : Int) then (some ((rd_T79 l0 t269).f1, true)) else (none)) else (none)))) = some (r1, r2) := h
 clear h
 obtain ⟨t269, A30, H⟩ := zW_ H
 replace H : (if t269 < 0 then (some ((⟨#[]⟩ : ByteArray), false)) else (if 0 ≤ t269 then (if t269 < (l0.length : Int) then (some ((rd_T79 l0 t269).f1, true)) else (none)) else (none))) = some (r1, r2) := H
 have A3 := yD A30
 clear A30
 by_cases c4 : t269 < 0
 ·
  rw [if_pos c4] at H
  have c4b0 : decide (t269 < 0) = true := zR c4; clear c4
  simp only [Option.some.injEq, Prod.mk.injEq] at H
  obtain ⟨rfl, rfl⟩ := H
  go_enter Try.func22, Try.ntmps22
  go_wp2_with (first | ((with_reducible refine gate_callee (f := 58) rfl ?_); refine gL 9 Try.func58 #[.slice A0 l0.length c0, .int .i64 a1] ?_; (with_reducible refine (spec_l11Find.calls k _ _ l0 a1 t269 _ ?side1 ?side2 A3.out).mono ?_); (case side1 => repeat (first | exact HR0.out | (with_reducible first | refine yV ?_ _ | refine yW ?_ _ | refine yX ?_))); (case side2 => exact HC0.out); rintro e w' ⟨rfl, ⟨nd, rfl⟩⟩; refine ⟨_, rfl, ?_⟩))
  go_ret2
  exact ⟨by first | rfl | (simp; done) | (simp [*]; done), by repeat (first | exact Drawn0.refl _ | apply Drawn0.step)⟩
 ·
  rw [if_neg c4] at H
  have c4b0 : decide (t269 < 0) = false := zS c4; clear c4
  by_cases c5 : 0 ≤ t269
  ·
   rw [if_pos c5] at H
   have c5b0 : decide (0 ≤ t269) = true := zR c5; clear c5
   by_cases c6 : t269 < (l0.length : Int)
   ·
    rw [if_pos c6] at H
    have c6b0 : decide (t269 < (l0.length : Int)) = true := zR c6; clear c6
    simp only [Option.some.injEq, Prod.mk.injEq] at H
    obtain ⟨rfl, rfl⟩ := H
    go_enter Try.func22, Try.ntmps22
    go_wp2_with (first | ((with_reducible refine gate_callee (f := 58) rfl ?_); refine gL 9 Try.func58 #[.slice A0 l0.length c0, .int .i64 a1] ?_; (with_reducible refine (spec_l11Find.calls k _ _ l0 a1 t269 _ ?side1 ?side2 A3.out).mono ?_); (case side1 => repeat (first | exact HR0.out | (with_reducible first | refine yV ?_ _ | refine yW ?_ _ | refine yX ?_))); (case side2 => exact HC0.out); rintro e w' ⟨rfl, ⟨nd, rfl⟩⟩; refine ⟨_, rfl, ?_⟩; have p270 : 0 ≤ (t269 : Int) := zP (by assumption); have q270 : t269 < (l0.length : Int) := zP (by assumption); obtain ⟨ad270, e270, hx270_0, hx270_1⟩ := at_T79 HR0.out t269 p270 q270; cases e270; replace p270 := eq_true p270; replace q270 := eq_true q270))
    go_ret2
    exact ⟨by first | rfl | (simp; done) | (simp [*]; done), by repeat (first | exact Drawn0.refl _ | apply Drawn0.step)⟩
   · rw [if_neg c6] at H
     exact absurd H (by simp)
  · rw [if_neg c5] at H
    exact absurd H (by simp)

/-! ### impl_PageOf_1: function 60 -/
def impl_PageOf_1.f (a0_0 : Int) (a0_1 : ByteArray) (a1_0 : Int) : Option (Bool) := some (a0_0 == a1_0)
set_option maxHeartbeats 8000000 in
set_option maxRecDepth 100000 in
theorem impl_PageOf_1.calls (a0_0 : Int) (a0_1 : ByteArray) (g1_0 : Nat) (a1_0 : Int) (r : Bool) (w : World) (hb1_0 : w.heap[g1_0]? = some (.cells #[.int .i64 a1_0] 2 (0, 0))) (h : impl_PageOf_1.f a0_0 a0_1 a1_0 = some r) :
 Calls Try.prog 60 #[.agg #[.int .i64 a0_0, .string a0_1], .pointer (some ⟨g1_0, 0, none⟩)] w fun e w' => e = .returned (.bool r) ∧ Below w.heap.size w w' := by
 have hu79 := Try.underlying79
 have BK48 := yD hb1_0
 clear hb1_0
 have HB := yD (Below.refl w.heap.size w)
 have H : (some (a0_0 == a1_0)) = some r := h
 clear h; obtain rfl := Option.some.inj H; go_enter Try.func60, Try.ntmps60
 go_wp2_with (first | ((with_reducible refine gate_dst (N := 2) rfl ?_); refine box_event ?hg (N := 2) ?hd (cs := #[.int .i64 a0_0, .string a0_1]) (t := 79) ?hr ?_; (case hd => rfl); (case hg => rfl); (case hr => first | (go_simp; done) | (go_simp; rfl)); intro gb271 hg w3 hbox hb; have BK271 := yD (hbox); have GW271 := yD ((by rw [hg]; exact (below_size (kB HB)) : w.heap.size ≤ gb271)); have GE271 := yD ((by rw [hg]; exact (below_size (kB HB)) : w.heap.size ≤ gb271)); replace HB := yD (zC (kB HB) hb); have NB48_271 := yD ((by rw [hg]; exact Nat.ne_of_lt (blk_lt (kN BK48)) : g1_0 ≠ gb271)); have NB271_48 := yD ((by rw [hg]; exact Nat.ne_of_gt (blk_lt (kN BK48)) : gb271 ≠ g1_0)); replace BK48 := yD (zB (kN BK48) hb); clear hb hbox hg; have hnb4 := NB271_48.out; have hnc4 := NB48_271.out; obtain ⟨hcz5_0, hcz5_1⟩ := cz2 BK271.out; obtain ⟨hfz5_0, hfz5_1⟩ := fz2 BK271.out; have hcz6_0 : w3.cell? ⟨g1_0, 0, none⟩ = some (.int .i64 a1_0) := (yG BK48.out 0).trans rfl; have hfz6_0 := yR BK48.out 0))
 go_ret
 exact ⟨by first | rfl | (simp <;> rfl) | (simp [*] <;> rfl), kR1 HB⟩

/-! ### slices_IndexFunc_impl_PageOf_1: function 59 -/
def slices_IndexFunc_impl_PageOf_1.l0 : Nat → List (S79) → Int → Int → Int → Option (Int)
 | 0, _, _, _, _ => none
 | k + 1, x0, x7, x8, x49000 => if x8 < x7 then (if 0 ≤ x8 then (if x8 < (x0.length : Int) then ((impl_PageOf_1.f ((rd_T79 x0 x8).f0) ((rd_T79 x0 x8).f1) x49000).bind fun t273 => (if t273 = true then (some x8) else (slices_IndexFunc_impl_PageOf_1.l0 k x0 x7 (wrap64 (x8 + 1)) x49000))) else (none)) else (none)) else (some (-1))
def slices_IndexFunc_impl_PageOf_1.f (k : Nat) (l0 : List (S79)) (a1_0 : Int) : Option (Int) := slices_IndexFunc_impl_PageOf_1.l0 k l0 (l0.length : Int) 0 a1_0
theorem slices_IndexFunc_impl_PageOf_1.mono_l : ∀ k, (∀ y0 y1 y2 y3, LeO (slices_IndexFunc_impl_PageOf_1.l0 k y0 y1 y2 y3) (slices_IndexFunc_impl_PageOf_1.l0 (k + 1) y0 y1 y2 y3))
 | 0 => fun _ _ _ _ r h => by simp [slices_IndexFunc_impl_PageOf_1.l0] at h
 | k + 1 => by
  have ih0 := slices_IndexFunc_impl_PageOf_1.mono_l k
  · intro y0 y1 y2 y3
    unfold slices_IndexFunc_impl_PageOf_1.l0
    repeat' (with_reducible first | exact ih0 _ _ _ _ | exact LeO.refl _ | exact LeO.none _ | refine LeO.ite ?_ ?_ | refine LeO.bind ?_ (fun _ => ?_))
theorem slices_IndexFunc_impl_PageOf_1.mono : ∀ a0 a1 k, LeO (slices_IndexFunc_impl_PageOf_1.f k a0 a1) (slices_IndexFunc_impl_PageOf_1.f (k + 1) a0 a1) := by
 intro a0 a1 k
 have ih0 := slices_IndexFunc_impl_PageOf_1.mono_l k
 unfold slices_IndexFunc_impl_PageOf_1.f
 repeat' (with_reducible first | exact ih0 _ _ _ _ | exact LeO.refl _ | exact LeO.none _ | refine LeO.ite ?_ ?_ | refine LeO.bind ?_ (fun _ => ?_))
set_option maxHeartbeats 8000000 in
set_option maxRecDepth 100000 in
theorem slices_IndexFunc_impl_PageOf_1.calls (k : Nat) (A0 : Option Addr) (c0 : Nat) (l0 : List (S79)) (g1_0 : Nat) (a1_0 : Int) (r : Int) (w : World) (hr0 : Kd.C k79 w A0 l0.length l0) (hc0 : l0.length ≤ c0) (hb1_0 : w.heap[g1_0]? = some (.cells #[.int .i64 a1_0] 2 (0, 0))) (h : slices_IndexFunc_impl_PageOf_1.f k l0 a1_0 = some r) :
 Calls Try.prog 59 #[.slice A0 l0.length c0, .func (.func 60) #[] #[.pointer (some ⟨g1_0, 0, none⟩)]] w fun e w' => e = .returned (.int .i64 r) ∧ Below w.heap.size w w' := by
 have hu79 := Try.underlying79
 have HR0 := yD hr0
 have HC0 := yD hc0
 clear hr0 hc0
 have BK48 := yD hb1_0
 clear hb1_0
 have HB := yD (Below.refl w.heap.size w)
 have H : (slices_IndexFunc_impl_PageOf_1.l0 k l0 (l0.length : Int) 0 a1_0) = some r := h
 clear h
 have H' := yD H
 clear H; go_enter Try.func59, Try.ntmps59
 go_wp2
 go_loopg [8] k (fun kq v8 w' => ∃ (x8_1 : Int), v8 = .int .i64 x8_1 ∧ Aside0 (slices_IndexFunc_impl_PageOf_1.l0 kq l0 (l0.length : Int) x8_1 a1_0 = some r) ∧ Aside0 (kq ≤ k) ∧ Aside0 (w'.heap[g1_0]? = some (.cells #[.int .i64 a1_0] 2 (0, 0))) ∧ Aside0 (Below w.heap.size w w'))
 case atStart => exact ⟨(0), (by first | rfl | (simp; done) | (simp [*]; done)), H', ⟨Nat.le_refl _⟩, ⟨kM BK48⟩, ⟨kR1 HB⟩⟩
 case round =>
  clear H'
  try clear p2
  obtain ⟨x8_1, rfl, HA, HK1, BK48, HB⟩ := hrel
  cases gk with
  | zero => exact absurd HA.out (by simp [slices_IndexFunc_impl_PageOf_1.l0])
  | succ k1 =>
   have H := HA.out; clear HA
   simp only [slices_IndexFunc_impl_PageOf_1.l0] at H
   by_cases c3 : x8_1 < (l0.length : Int)
   ·
    rw [if_pos c3] at H
    have c3b0 : decide (x8_1 < (l0.length : Int)) = true := zR c3; clear c3
    by_cases c4 : 0 ≤ x8_1
    ·
     rw [if_pos c4] at H
     have c4b0 : decide (0 ≤ x8_1) = true := zR c4; clear c4
     by_cases c5 : x8_1 < (l0.length : Int)
     ·
      rw [if_pos c5] at H
      have c5b0 : decide (x8_1 < (l0.length : Int)) = true := zR c5; clear c5
      obtain ⟨t273, A60, H⟩ := zW_ H
      replace H : (if t273 = true then (some x8_1) else (slices_IndexFunc_impl_PageOf_1.l0 k1 l0 (l0.length : Int) (wrap64 (x8_1 + 1)) a1_0)) = some r := H
      have A6 := yD A60
      clear A60
      by_cases c7 : t273 = true
      ·
       subst c7
       replace H : (some x8_1) = some r := (by rw [if_pos rfl] at H; exact H); obtain rfl := Option.some.inj H
       have p272 : 0 ≤ (x8_1 : Int) := zP (by assumption)
       have q272 : x8_1 < (l0.length : Int) := zP (by assumption)
       obtain ⟨ad272, e272, hx272_0, hx272_1⟩ := at_T79 HR0.out x8_1 p272 q272
       cases e272
       replace hx272_0 := (HB.out.cell (zQ w _ hx272_0)).trans hx272_0
       replace hx272_1 := (HB.out.cell (zQ w _ hx272_1)).trans hx272_1
       replace p272 := eq_true p272; replace q272 := eq_true q272
       go_wp2_with (first | (go_at_call 60; (with_reducible refine (impl_PageOf_1.calls ((rd_T79 l0 x8_1).f0) ((rd_T79 l0 x8_1).f1) g1_0 a1_0 true _ ?side1 A6.out).mono ?_); (case side1 => (with_reducible repeat (first | refine yM ?_ _ | refine yO ?_ | refine yN ?_ _)); exact BK48.out); rintro e w8 ⟨rfl, hb⟩; replace BK48 := yD (zB (kN BK48) hb); replace HB := yD (zC (kB HB) hb); clear hb))
       go_ret
       exact ⟨by first | rfl | (simp <;> rfl) | (simp [*] <;> rfl), kR1 HB⟩
      ·
       replace c7 := Bool.eq_false_iff.mpr c7
       subst c7
       replace H : (slices_IndexFunc_impl_PageOf_1.l0 k1 l0 (l0.length : Int) (wrap64 (x8_1 + 1)) a1_0) = some r := (by rw [if_neg (show ¬ (false = true) by decide)] at H; exact H)
       have H' := yD H
       clear H
       have p272 : 0 ≤ (x8_1 : Int) := zP (by assumption)
       have q272 : x8_1 < (l0.length : Int) := zP (by assumption)
       obtain ⟨ad272, e272, hx272_0, hx272_1⟩ := at_T79 HR0.out x8_1 p272 q272
       cases e272
       replace hx272_0 := (HB.out.cell (zQ w _ hx272_0)).trans hx272_0
       replace hx272_1 := (HB.out.cell (zQ w _ hx272_1)).trans hx272_1
       replace p272 := eq_true p272; replace q272 := eq_true q272
       go_wp2_with (first | (go_at_call 60; (with_reducible refine (impl_PageOf_1.calls ((rd_T79 l0 x8_1).f0) ((rd_T79 l0 x8_1).f1) g1_0 a1_0 false _ ?side1 A6.out).mono ?_); (case side1 => (with_reducible repeat (first | refine yM ?_ _ | refine yO ?_ | refine yN ?_ _)); exact BK48.out); rintro e w9 ⟨rfl, hb⟩; replace BK48 := yD (zB (kN BK48) hb); replace HB := yD (zC (kB HB) hb); clear hb))
       go_roundg k1
       case measure => have := HK1.out; omega
       case rel => exact ⟨(wrap64 (x8_1 + 1)), (by first | rfl | (simp; done) | (simp [*]; done)), H', ⟨by have := HK1.out; omega⟩, ⟨kM BK48⟩, ⟨kR1 HB⟩⟩
     · rw [if_neg c5] at H
       exact absurd H (by simp)
    · rw [if_neg c4] at H
      exact absurd H (by simp)
   · rw [if_neg c3] at H
     have c3b0 : decide (x8_1 < (l0.length : Int)) = false := zS c3; clear c3; obtain rfl := Option.some.inj H
     go_wp2
     go_ret
     exact ⟨by first | rfl | (simp <;> rfl) | (simp [*] <;> rfl), kR1 HB⟩

end Go.Proofs.Ytfblodggimjoaaa.PFnMerged
