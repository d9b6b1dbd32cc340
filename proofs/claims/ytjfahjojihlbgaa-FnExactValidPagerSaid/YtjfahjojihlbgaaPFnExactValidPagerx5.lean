/- Each Go function here comes to what the plain function of its name says, where that says something. Made by a program of this session, over the print. -/
import Derived.Test.YtjfahjojihlbgaaPFnExactValidPagerx0
import Derived.Test.YtjfahjojihlbgaaPFnExactValidPagerx2
import Derived.Test.YtjfahjojihlbgaaPFnExactValidPagerx3
import Derived.Test.YtjfahjojihlbgaaPFnExactValidPagerx4
namespace Go.Proofs.Ytjfahjojihlbgaa.PFnExactValidPager
open Go.RowKit Go.Proofs.YtjfahjojihlbgaaW.PrintWords Go.Proofs.YtjfahjojihlbgaaW.PrintLast Go.Proofs.YtjfahjojihlbgaaW.PrintMore
attribute [local go_sem] max2_int min2_int max_two min_two max_three min_three max_four min_four   -- for this text's walks alone
set_option linter.unusedVariables false
set_option linter.unusedSimpArgs false

/-! ### spec_l12Ok_c48: function 33 -/
def spec_l12Ok_c48.j0 : Nat → Bool → List ByteArray → List (S58) → Int → Bool → Int → Int → Int → Int → Int → Int → List (S96) → List (S96) → Int → Int → Int → Int → Option (Bool)
  | 0, _, _, _, _, _, _, _, _, _, _, _, _, _, _, _, _, _ => none
  | k + 1, x45, x41000, x41001, x41002, x41003, x41004, x41005, x41006, x41007, x41008, x41009, x41010, x41011, x198000, x198001, x198002, x198003 => if x45 = true then (some false) else ((spec_l00In.f x41008 x198002 1000000000000).bind fun t201 => (if t201 = true then ((spec_l00In.f x41009 0 x198001).bind fun t202 => (if t202 = true then ((spec_l11Pages.f k x41010).bind fun t203 => (if t203 = true then ((spec_l11Pages.f k x41011).bind fun t204 => (if t204 = true then ((spec_l11Within.f k x198000 x198001 x198002 x198003 x41010).bind fun t205 => (if t205 = true then ((spec_l11Within.f k x198000 x198001 x198002 x198003 x41011).bind fun t206 => (if t206 = true then ((spec_l12Fits.f x198000 x198001 x198002 x198003 (x41011.length : Int)).bind fun t207 => (some t207)) else (some false))) else (some false))) else (some false))) else (some false))) else (some false))) else (some false)))
def spec_l12Ok_c48.f (k : Nat) (l0_0 : List ByteArray) (l0_1 : List (S58)) (a0_2 : Int) (a0_3 : Bool) (a0_4 : Int) (a0_5 : Int) (a0_6 : Int) (a0_7 : Int) (a0_8 : Int) (a0_9 : Int) (l0_10 : List (S96)) (l0_11 : List (S96)) : Option (Bool) := (spec_l09Ok_c48.f k l0_0 l0_1 a0_2 a0_3 a0_4 a0_5 a0_6 a0_7 a0_8 a0_9 l0_10 l0_11).bind fun t198 => (if t198 = true then (if (l0_1.length : Int) > 1 then (if a0_3 = true then ((spec_ValidSuper.f a0_4 a0_5 a0_6 a0_7).bind fun t199 => (if t199 = true then (spec_l12Ok_c48.j0 k (a0_4 != (l0_0.length : Int)) l0_0 l0_1 a0_2 a0_3 a0_4 a0_5 a0_6 a0_7 a0_8 a0_9 l0_10 l0_11 a0_4 a0_5 a0_6 a0_7) else (spec_l12Ok_c48.j0 k true l0_0 l0_1 a0_2 a0_3 a0_4 a0_5 a0_6 a0_7 a0_8 a0_9 l0_10 l0_11 a0_4 a0_5 a0_6 a0_7))) else (spec_l12Ok_c48.j0 k true l0_0 l0_1 a0_2 a0_3 a0_4 a0_5 a0_6 a0_7 a0_8 a0_9 l0_10 l0_11 a0_4 a0_5 a0_6 a0_7)) else ((spec_ValidSuper.f a0_4 a0_5 a0_6 a0_7).bind fun t200 => (if t200 = true then (spec_l12Ok_c48.j0 k (a0_4 != (l0_0.length : Int)) l0_0 l0_1 a0_2 a0_3 a0_4 a0_5 a0_6 a0_7 a0_8 a0_9 l0_10 l0_11 a0_4 a0_5 a0_6 a0_7) else (spec_l12Ok_c48.j0 k true l0_0 l0_1 a0_2 a0_3 a0_4 a0_5 a0_6 a0_7 a0_8 a0_9 l0_10 l0_11 a0_4 a0_5 a0_6 a0_7)))) else (spec_l12Ok_c48.j0 k true l0_0 l0_1 a0_2 a0_3 a0_4 a0_5 a0_6 a0_7 a0_8 a0_9 l0_10 l0_11 a0_4 a0_5 a0_6 a0_7))
theorem spec_l12Ok_c48.mono_l : ∀ k, (∀ y0 y1 y2 y3 y4 y5 y6 y7 y8 y9 y10 y11 y12 y13 y14 y15 y16, LeO (spec_l12Ok_c48.j0 k y0 y1 y2 y3 y4 y5 y6 y7 y8 y9 y10 y11 y12 y13 y14 y15 y16) (spec_l12Ok_c48.j0 (k + 1) y0 y1 y2 y3 y4 y5 y6 y7 y8 y9 y10 y11 y12 y13 y14 y15 y16))
  | 0 => fun _ _ _ _ _ _ _ _ _ _ _ _ _ _ _ _ _ r h => by simp [spec_l12Ok_c48.j0] at h
  | k + 1 => by
    have ih0 := spec_l12Ok_c48.mono_l k
    · intro y0 y1 y2 y3 y4 y5 y6 y7 y8 y9 y10 y11 y12 y13 y14 y15 y16
      unfold spec_l12Ok_c48.j0
      repeat' first
      | (with_reducible exact ih0 _ _ _ _ _ _ _ _ _ _ _ _ _ _ _ _ _)
      | (with_reducible exact spec_l09Ok_c48.mono _ _ _ _ _ _ _ _ _ _ _ _ _)
      | (with_reducible exact spec_l11Pages.mono _ _)
      | (with_reducible exact spec_l11Within.mono _ _ _ _ _ _)
      | (with_reducible exact LeO.refl _)
      | (with_reducible exact LeO.none _)
      | (with_reducible refine LeO.ite ?_ ?_)
      | (with_reducible refine LeO.bind ?_ (fun _ => ?_))
      | exact ih0 _ _ _ _ _ _ _ _ _ _ _ _ _ _ _ _ _
      | exact spec_l09Ok_c48.mono _ _ _ _ _ _ _ _ _ _ _ _ _
      | exact spec_l11Pages.mono _ _
      | exact spec_l11Within.mono _ _ _ _ _ _
      | exact LeO.none _
      | refine LeO.ite ?_ ?_
      | refine LeO.bind ?_ (fun _ => ?_)
theorem spec_l12Ok_c48.mono : ∀ a0 a1 a2 a3 a4 a5 a6 a7 a8 a9 a10 a11 k, LeO (spec_l12Ok_c48.f k a0 a1 a2 a3 a4 a5 a6 a7 a8 a9 a10 a11) (spec_l12Ok_c48.f (k + 1) a0 a1 a2 a3 a4 a5 a6 a7 a8 a9 a10 a11) := by
  intro a0 a1 a2 a3 a4 a5 a6 a7 a8 a9 a10 a11 k
  have ih0 := spec_l12Ok_c48.mono_l k
  unfold spec_l12Ok_c48.f
  repeat' first
      | (with_reducible exact ih0 _ _ _ _ _ _ _ _ _ _ _ _ _ _ _ _ _)
      | (with_reducible exact spec_l09Ok_c48.mono _ _ _ _ _ _ _ _ _ _ _ _ _)
      | (with_reducible exact spec_l11Pages.mono _ _)
      | (with_reducible exact spec_l11Within.mono _ _ _ _ _ _)
      | (with_reducible exact LeO.refl _)
      | (with_reducible exact LeO.none _)
      | (with_reducible refine LeO.ite ?_ ?_)
      | (with_reducible refine LeO.bind ?_ (fun _ => ?_))
      | exact ih0 _ _ _ _ _ _ _ _ _ _ _ _ _ _ _ _ _
      | exact spec_l09Ok_c48.mono _ _ _ _ _ _ _ _ _ _ _ _ _
      | exact spec_l11Pages.mono _ _
      | exact spec_l11Within.mono _ _ _ _ _ _
      | exact LeO.none _
      | refine LeO.ite ?_ ?_
      | refine LeO.bind ?_ (fun _ => ?_)
def spec_l12Ok_c48.T2 : Bool × List (List Nat × List Nat) := (true, [([], []), ([0], [0]), ([1], [1]), ([2], [2]), ([3], [3]), ([4, 3], [4]), ([5], [5]), ([6, 5], [5, 6]), ([7, 5], [5, 7]), ([8, 5], [5, 8]), ([9, 5], [5, 9]), ([10, 5], [5, 10]), ([11, 5], [5, 11]), ([12, 5, 5], [5, 12]), ([13], [13]), ([14, 13], [13, 14]), ([15, 13], [13, 15]), ([16, 13], [13, 16]), ([17, 13], [13, 17]), ([18, 13], [13, 18]), ([13, 19, 5], [5, 13, 19]), ([5, 20], [5, 20]), ([21, 13], [21]), ([22], [22]), ([23, 22, 22], [22, 23]), ([24, 22], [22, 24]), ([22, 25], [22, 25]), ([26, 24], [26]), ([27], [27]), ([28, 27], [27, 28]), ([27], [27]), ([30, 27], [27, 30]), ([31, 27], [27, 31]), ([32, 27], [27, 32]), ([33, 27], [27, 33]), ([34, 27], [27, 34]), ([29, 35, 27], [27, 29, 35]), ([27, 36], [27, 36])])
def spec_l12Ok_c48.B2 : List Nat := [0, 1, 3, 7, 15, 31, 63, 127, 255, 511, 1023, 2047, 4095, 8191, 16383, 32767, 65535, 131071, 262143, 524287, 1048575, 2097151, 4194303, 8388607, 16777215, 33554431, 67108863, 134217727, 268435455, 536870911, 268435455, 1342177279, 3489660927, 7784628223, 16374562815, 33554431999, 68719476735, 137438953471]
theorem spec_l12Ok_c48.tab2 : rtab .any (opsOf Try.f33 2) = spec_l12Ok_c48.T2 := by kernel_rfl
theorem spec_l12Ok_c48.bits2 : waitsOk spec_l12Ok_c48.T2.2 spec_l12Ok_c48.B2 = true := by kernel_rfl
def spec_l12Ok_c48.T4 : Bool × List (List Nat × List Nat) := (true, [([], []), ([0], [0]), ([1], [1]), ([2], [2]), ([], []), ([4], [4]), ([3, 5], [3, 5]), ([6], [6]), ([7, 6], [7]), ([8], [8]), ([9, 8], [8, 9]), ([10, 8], [8, 10]), ([11, 8], [8, 11]), ([8], [8]), ([13, 8], [8, 13]), ([12, 14, 8, 8], [8, 12, 14]), ([15, 8], [8, 15]), ([8, 16], [8, 16]), ([17, 15], [17]), ([18], [18]), ([19, 18], [18, 19]), ([20, 18], [18, 20]), ([21, 18], [18, 21]), ([22, 18, 18], [18, 22]), ([23, 18], [18, 23]), ([18, 24], [18, 24]), ([25, 23], [25]), ([26], [26]), ([27, 26], [26, 27]), ([28, 26], [26, 28]), ([29, 26], [26, 29]), ([30, 26, 26], [26, 30]), ([31, 26], [26, 31]), ([26, 32], [26, 32]), ([33, 31], [33]), ([34], [34]), ([34], [34]), ([36, 34], [34, 36]), ([37, 34], [34, 37]), ([38, 34], [34, 38]), ([35, 39, 34, 34], [34, 35, 39]), ([40, 34], [34, 40]), ([34, 41], [34, 41]), ([42, 40], [42]), ([43], [43]), ([43], [43]), ([45, 43], [43, 45]), ([46, 43], [43, 46]), ([47, 43], [43, 47]), ([44, 48, 43, 43], [43, 44, 48]), ([49, 43], [43, 49]), ([43, 50], [43, 50])])
def spec_l12Ok_c48.B4 : List Nat := [0, 1, 3, 7, 0, 16, 63, 127, 255, 511, 1023, 2047, 4095, 511, 8703, 32767, 65535, 131071, 262143, 524287, 1048575, 2097151, 4194303, 8388607, 16777215, 33554431, 67108863, 134217727, 268435455, 536870911, 1073741823, 2147483647, 4294967295, 8589934591, 17179869183, 34359738367, 34359738367, 103079215103, 240518168575, 515396075519, 1099511627775, 2199023255551, 4398046511103, 8796093022207, 17592186044415, 17592186044415, 52776558133247, 123145302310911, 263882790666239, 562949953421311, 1125899906842623, 2251799813685247]
theorem spec_l12Ok_c48.tab4 : rtab .any (opsOf Try.f33 4) = spec_l12Ok_c48.T4 := by kernel_rfl
theorem spec_l12Ok_c48.bits4 : waitsOk spec_l12Ok_c48.T4.2 spec_l12Ok_c48.B4 = true := by kernel_rfl
def spec_l12Ok_c48.T6 : Bool × List (List Nat × List Nat) := (true, [([], []), ([], []), ([1], [1]), ([2], [2]), ([3], [3]), ([4], [4]), ([0, 5], [0, 5]), ([6, 6, 0, 1, 2, 3, 4, 5, 6], [6])])
def spec_l12Ok_c48.B6 : List Nat := [0, 0, 2, 6, 14, 30, 63, 127]
theorem spec_l12Ok_c48.tab6 : rtab .any (opsOf Try.f33 6) = spec_l12Ok_c48.T6 := by kernel_rfl
theorem spec_l12Ok_c48.bits6 : waitsOk spec_l12Ok_c48.T6.2 spec_l12Ok_c48.B6 = true := by kernel_rfl
set_option maxHeartbeats 8000000 in
set_option maxRecDepth 100000 in
theorem spec_l12Ok_c48.calls (k : Nat) (g0_0 : Nat) (A0_0 : Option Addr) (c0_0 : Nat) (l0_0 : List ByteArray) (A0_1 : Option Addr) (c0_1 : Nat) (l0_1 : List (S58)) (a0_2 : Int) (a0_3 : Bool) (a0_4 : Int) (a0_5 : Int) (a0_6 : Int) (a0_7 : Int) (a0_8 : Int) (a0_9 : Int) (A0_10 : Option Addr) (c0_10 : Nat) (l0_10 : List (S96)) (A0_11 : Option Addr) (c0_11 : Nat) (l0_11 : List (S96)) (r : Bool) (w : World) (hr0_0 : Kd.C Kd.string w A0_0 l0_0.length l0_0) (hc0_0 : l0_0.length ≤ c0_0) (hr0_1 : Kd.C k58 w A0_1 l0_1.length l0_1) (hc0_1 : l0_1.length ≤ c0_1) (hr0_10 : Kd.C k96 w A0_10 l0_10.length l0_10) (hc0_10 : l0_10.length ≤ c0_10) (hr0_11 : Kd.C k96 w A0_11 l0_11.length l0_11) (hc0_11 : l0_11.length ≤ c0_11) (hb0_0 : w.heap[g0_0]? = some (.cells #[.slice A0_0 l0_0.length c0_0, .slice A0_1 l0_1.length c0_1, .int .i64 a0_2, .bool a0_3, .int .i64 a0_4, .int .i64 a0_5, .int .i64 a0_6, .int .i64 a0_7, .int .i64 a0_8, .int .i64 a0_9, .slice A0_10 l0_10.length c0_10, .slice A0_11 l0_11.length c0_11] 48 (0, 0))) (h : spec_l12Ok_c48.f k l0_0 l0_1 a0_2 a0_3 a0_4 a0_5 a0_6 a0_7 a0_8 a0_9 l0_10 l0_11 = some r) :
    Calls Try.prog 33 #[.pointer (some ⟨g0_0, 0, none⟩)] w fun e w' => e = .returned (.bool r) ∧ Below w.heap.size w w' := by
  have hu45 := Try.underlying45
  have HR0_0 := yD hr0_0
  have HC0_0 := yD hc0_0
  clear hr0_0 hc0_0
  have HR0_1 := yD hr0_1
  have HC0_1 := yD hc0_1
  clear hr0_1 hc0_1
  have HR0_10 := yD hr0_10
  have HC0_10 := yD hc0_10
  clear hr0_10 hc0_10
  have HR0_11 := yD hr0_11
  have HC0_11 := yD hc0_11
  clear hr0_11 hc0_11
  have BK40 := yD hb0_0
  clear hb0_0
  have HB := yD (Below.refl w.heap.size w)
  have H : ((spec_l09Ok_c48.f k l0_0 l0_1 a0_2 a0_3 a0_4 a0_5 a0_6 a0_7 a0_8 a0_9 l0_10 l0_11).bind fun t198 => (if t198 = true then (if (l0_1.length : Int) > 1 then (if a0_3 = true then ((spec_ValidSuper.f a0_4 a0_5 a0_6 a0_7).bind fun t199 => (if t199 = true then (spec_l12Ok_c48.j0 k (a0_4 != (l0_0.length : Int)) l0_0 l0_1 a0_2 a0_3 a0_4 a0_5 a0_6 a0_7 a0_8 a0_9 l0_10 l0_11 a0_4 a0_5 a0_6 a0_7) else (spec_l12Ok_c48.j0 k true l0_0 l0_1 a0_2 a0_3 a0_4 a0_5 a0_6 a0_7 a0_8 a0_9 l0_10 l0_11 a0_4 a0_5 a0_6 a0_7))) else (spec_l12Ok_c48.j0 k true l0_0 l0_1 a0_2 a0_3 a0_4 a0_5 a0_6 a0_7 a0_8 a0_9 l0_10 l0_11 a0_4 a0_5 a0_6 a0_7)) else ((spec_ValidSuper.f a0_4 a0_5 a0_6 a0_7).bind fun t200 => (if t200 = true then (spec_l12Ok_c48.j0 k (a0_4 != (l0_0.length : Int)) l0_0 l0_1 a0_2 a0_3 a0_4 a0_5 a0_6 a0_7 a0_8 a0_9 l0_10 l0_11 a0_4 a0_5 a0_6 a0_7) else (spec_l12Ok_c48.j0 k true l0_0 l0_1 a0_2 a0_3 a0_4 a0_5 a0_6 a0_7 a0_8 a0_9 l0_10 l0_11 a0_4 a0_5 a0_6 a0_7)))) else (spec_l12Ok_c48.j0 k true l0_0 l0_1 a0_2 a0_3 a0_4 a0_5 a0_6 a0_7 a0_8 a0_9 l0_10 l0_11 a0_4 a0_5 a0_6 a0_7))) = some r := h
  clear h
  have HC2 := yD H
  clear H
  obtain ⟨hcz3_0, hcz3_1, hcz3_2, hcz3_3, hcz3_4, hcz3_5, hcz3_6, hcz3_7, hcz3_8, hcz3_9, hcz3_10, hcz3_11⟩ := cz12 BK40.out
  obtain ⟨hfz3_0, hfz3_1, hfz3_2, hfz3_3, hfz3_4, hfz3_5, hfz3_6, hfz3_7, hfz3_8, hfz3_9, hfz3_10, hfz3_11⟩ := fz12 BK40.out
  go_enter Try.func33, Try.ntmps33
  go_upto_region 2 with (first | ((with_reducible refine gate_dst (N := 3) rfl ?_); (try (refine gate_guard (by rfl) ?_; dsimp only)); refine box_event ?hg (N := 3) ?hd (cs := #[.int .i64 0, .int .i64 0, .int .i64 0, .int .i64 0]) (t := 45) ?hr ?_; (case hd => rfl); (case hg => rfl); (case hr => first | (go_simp; done) | (go_simp; rfl)); intro gb197 hg w4 hbox hb; have n0_ := yD (zB (g := g0_0) (o := .cells #[.slice A0_0 l0_0.length c0_0, .slice A0_1 l0_1.length c0_1, .int .i64 a0_2, .bool a0_3, .int .i64 a0_4, .int .i64 a0_5, .int .i64 a0_6, .int .i64 a0_7, .int .i64 a0_8, .int .i64 a0_9, .slice A0_10 l0_10.length c0_10, .slice A0_11 l0_11.length c0_11] 48 (0, 0)) (by (with_reducible repeat (first | refine yM ?_ _ | refine yO ?_ | refine yN ?_ _)); exact BK40.out) hb); have n1_ := yD (zC (by repeat (first | (with_reducible first | exact HB.out | apply yQ | apply yL | apply yP | refine yE ?_ GE40.out) | exact HB.out)) hb); have n2_ := yD (hbox); have n3_ := yD ((by rw [hg]; exact (below_size (by repeat (first | (with_reducible first | exact HB.out | apply yQ | apply yL | apply yP | refine yE ?_ GE40.out) | exact HB.out))) : w.heap.size ≤ gb197)); have n4_ := yD ((by rw [hg]; exact (below_size (by repeat (first | (with_reducible first | exact HB.out | apply yQ | apply yL | apply yP | refine yE ?_ GE40.out) | exact HB.out))) : w.heap.size ≤ gb197)); have n5_ := yD ((by rw [hg]; exact Nat.ne_of_lt (blk_lt (g := g0_0) (o := .cells #[.slice A0_0 l0_0.length c0_0, .slice A0_1 l0_1.length c0_1, .int .i64 a0_2, .bool a0_3, .int .i64 a0_4, .int .i64 a0_5, .int .i64 a0_6, .int .i64 a0_7, .int .i64 a0_8, .int .i64 a0_9, .slice A0_10 l0_10.length c0_10, .slice A0_11 l0_11.length c0_11] 48 (0, 0)) (by (with_reducible repeat (first | refine yM ?_ _ | refine yO ?_ | refine yN ?_ _)); exact BK40.out)) : g0_0 ≠ gb197)); have n6_ := yD ((by rw [hg]; exact Nat.ne_of_gt (blk_lt (g := g0_0) (o := .cells #[.slice A0_0 l0_0.length c0_0, .slice A0_1 l0_1.length c0_1, .int .i64 a0_2, .bool a0_3, .int .i64 a0_4, .int .i64 a0_5, .int .i64 a0_6, .int .i64 a0_7, .int .i64 a0_8, .int .i64 a0_9, .slice A0_10 l0_10.length c0_10, .slice A0_11 l0_11.length c0_11] 48 (0, 0)) (by (with_reducible repeat (first | refine yM ?_ _ | refine yO ?_ | refine yN ?_ _)); exact BK40.out)) : gb197 ≠ g0_0)); clear BK40; clear HB; have BK40 := n0_; have HB := n1_; have BK197 := n2_; have GW197 := n3_; have GE197 := n4_; have NB40_197 := n5_; have NB197_40 := n6_; clear n0_ n1_ n2_ n3_ n4_ n5_ n6_; clear hb hbox hg; have hnb5 := NB197_40.out; have hnc5 := NB40_197.out; obtain ⟨hcz6_0, hcz6_1, hcz6_2, hcz6_3⟩ := cz4 BK197.out; obtain ⟨hfz6_0, hfz6_1, hfz6_2, hfz6_3⟩ := fz4 BK197.out))
  (try simp only [Act.put, zH, zI, zJ])
  go_cut [45] (fun v45 wc => ∃ (kq : Nat) (x45_1 : Bool), v45 = .bool x45_1 ∧ Aside0 (spec_l12Ok_c48.j0 kq x45_1 l0_0 l0_1 a0_2 a0_3 a0_4 a0_5 a0_6 a0_7 a0_8 a0_9 l0_10 l0_11 a0_4 a0_5 a0_6 a0_7 = some r) ∧ Aside0 (kq ≤ k) ∧ Aside0 (wc.heap[g0_0]? = some (.cells #[(.slice A0_0 l0_0.length c0_0), (.slice A0_1 l0_1.length c0_1), .int .i64 a0_2, .bool a0_3, .int .i64 a0_4, .int .i64 a0_5, .int .i64 a0_6, .int .i64 a0_7, .int .i64 a0_8, .int .i64 a0_9, (.slice A0_10 l0_10.length c0_10), (.slice A0_11 l0_11.length c0_11)] 48 (0, 0))) ∧ Aside0 (wc.heap[gb197]? = some (.cells #[.int .i64 a0_4, .int .i64 a0_5, .int .i64 a0_6, .int .i64 a0_7] 45 (0, 0))) ∧ Aside0 (Below w.heap.size w wc))
  case first =>
    have H := HC2.out; clear HC2
    obtain ⟨t198, A70, H⟩ := zW_ H
    replace H : (if t198 = true then (if (l0_1.length : Int) > 1 then (if a0_3 = true then ((spec_ValidSuper.f a0_4 a0_5 a0_6 a0_7).bind fun t199 => (if t199 = true then (spec_l12Ok_c48.j0 k (a0_4 != (l0_0.length : Int)) l0_0 l0_1 a0_2 a0_3 a0_4 a0_5 a0_6 a0_7 a0_8 a0_9 l0_10 l0_11 a0_4 a0_5 a0_6 a0_7) else (spec_l12Ok_c48.j0 k true l0_0 l0_1 a0_2 a0_3 a0_4 a0_5 a0_6 a0_7 a0_8 a0_9 l0_10 l0_11 a0_4 a0_5 a0_6 a0_7))) else (spec_l12Ok_c48.j0 k true l0_0 l0_1 a0_2 a0_3 a0_4 a0_5 a0_6 a0_7 a0_8 a0_9 l0_10 l0_11 a0_4 a0_5 a0_6 a0_7)) else ((spec_ValidSuper.f a0_4 a0_5 a0_6 a0_7).bind fun t200 => (if t200 = true then (spec_l12Ok_c48.j0 k (a0_4 != (l0_0.length : Int)) l0_0 l0_1 a0_2 a0_3 a0_4 a0_5 a0_6 a0_7 a0_8 a0_9 l0_10 l0_11 a0_4 a0_5 a0_6 a0_7) else (spec_l12Ok_c48.j0 k true l0_0 l0_1 a0_2 a0_3 a0_4 a0_5 a0_6 a0_7 a0_8 a0_9 l0_10 l0_11 a0_4 a0_5 a0_6 a0_7)))) else (spec_l12Ok_c48.j0 k true l0_0 l0_1 a0_2 a0_3 a0_4 a0_5 a0_6 a0_7 a0_8 a0_9 l0_10 l0_11 a0_4 a0_5 a0_6 a0_7)) = some r := H
    have A7 := yD A70
    clear A70
    by_cases c8 : t198 = true
    · subst c8
      have H1 : (if (l0_1.length : Int) > 1 then (if a0_3 = true then ((spec_ValidSuper.f a0_4 a0_5 a0_6 a0_7).bind fun t199 => (if t199 = true then (spec_l12Ok_c48.j0 k (a0_4 != (l0_0.length : Int)) l0_0 l0_1 a0_2 a0_3 a0_4 a0_5 a0_6 a0_7 a0_8 a0_9 l0_10 l0_11 a0_4 a0_5 a0_6 a0_7) else (spec_l12Ok_c48.j0 k true l0_0 l0_1 a0_2 a0_3 a0_4 a0_5 a0_6 a0_7 a0_8 a0_9 l0_10 l0_11 a0_4 a0_5 a0_6 a0_7))) else (spec_l12Ok_c48.j0 k true l0_0 l0_1 a0_2 a0_3 a0_4 a0_5 a0_6 a0_7 a0_8 a0_9 l0_10 l0_11 a0_4 a0_5 a0_6 a0_7)) else ((spec_ValidSuper.f a0_4 a0_5 a0_6 a0_7).bind fun t200 => (if t200 = true then (spec_l12Ok_c48.j0 k (a0_4 != (l0_0.length : Int)) l0_0 l0_1 a0_2 a0_3 a0_4 a0_5 a0_6 a0_7 a0_8 a0_9 l0_10 l0_11 a0_4 a0_5 a0_6 a0_7) else (spec_l12Ok_c48.j0 k true l0_0 l0_1 a0_2 a0_3 a0_4 a0_5 a0_6 a0_7 a0_8 a0_9 l0_10 l0_11 a0_4 a0_5 a0_6 a0_7)))) = some r := by rw [if_pos rfl] at H; exact H
      clear H; have H := H1; clear H1
      by_cases c9 : (l0_1.length : Int) > 1
      · rw [if_pos c9] at H
        have c9b0 : decide (1 < (l0_1.length : Int)) = true := zR c9
        have c9b1 : decide (1 < l0_1.length) = true := zR (by omega)
        clear c9
        (first | rw [c9b0] | (simp only [i64_w, i32_w]; rw [c9b0]) | (simp only [bne] at c9b0; rw [c9b0]) | skip)
        by_cases c10 : a0_3 = true
        · subst c10
          have H1 : ((spec_ValidSuper.f a0_4 a0_5 a0_6 a0_7).bind fun t199 => (if t199 = true then (spec_l12Ok_c48.j0 k (a0_4 != (l0_0.length : Int)) l0_0 l0_1 a0_2 true a0_4 a0_5 a0_6 a0_7 a0_8 a0_9 l0_10 l0_11 a0_4 a0_5 a0_6 a0_7) else (spec_l12Ok_c48.j0 k true l0_0 l0_1 a0_2 true a0_4 a0_5 a0_6 a0_7 a0_8 a0_9 l0_10 l0_11 a0_4 a0_5 a0_6 a0_7))) = some r := by rw [if_pos rfl] at H; exact H
          clear H; have H := H1; clear H1
          obtain ⟨t199, A110, H⟩ := zW_ H
          replace H : (if t199 = true then (spec_l12Ok_c48.j0 k (a0_4 != (l0_0.length : Int)) l0_0 l0_1 a0_2 true a0_4 a0_5 a0_6 a0_7 a0_8 a0_9 l0_10 l0_11 a0_4 a0_5 a0_6 a0_7) else (spec_l12Ok_c48.j0 k true l0_0 l0_1 a0_2 true a0_4 a0_5 a0_6 a0_7 a0_8 a0_9 l0_10 l0_11 a0_4 a0_5 a0_6 a0_7)) = some r := H
          have A11 := yD A110
          clear A110
          by_cases c12 : t199 = true
          · subst c12
            have H1 : (spec_l12Ok_c48.j0 k (a0_4 != (l0_0.length : Int)) l0_0 l0_1 a0_2 true a0_4 a0_5 a0_6 a0_7 a0_8 a0_9 l0_10 l0_11 a0_4 a0_5 a0_6 a0_7) = some r := by rw [if_pos rfl] at H; exact H
            clear H; have H := H1; clear H1
            have H' := yD H
            clear H
            try go_wp2
            have n0_ : Aside0 (((((w4.setCell ⟨gb197, 0, none⟩ (.int .i64 a0_4)).setCell ⟨gb197, 1, none⟩ (.int .i64 a0_5)).setCell ⟨gb197, 2, none⟩ (.int .i64 a0_6)).setCell ⟨gb197, 3, none⟩ (.int .i64 a0_7)).heap[g0_0]? = some (.cells #[.slice A0_0 l0_0.length c0_0, .slice A0_1 l0_1.length c0_1, .int .i64 a0_2, .bool true, .int .i64 a0_4, .int .i64 a0_5, .int .i64 a0_6, .int .i64 a0_7, .int .i64 a0_8, .int .i64 a0_9, .slice A0_10 l0_10.length c0_10, .slice A0_11 l0_11.length c0_11] 48 (0, 0))) := ⟨by (with_reducible repeat (first | refine yM ?_ _ | refine yO ?_ | refine yN ?_ _)); refine blk_far ?_ NB40_197.out _; (with_reducible repeat (first | refine yM ?_ _ | refine yO ?_ | refine yN ?_ _)); refine blk_far ?_ NB40_197.out _; (with_reducible repeat (first | refine yM ?_ _ | refine yO ?_ | refine yN ?_ _)); refine blk_far ?_ NB40_197.out _; (with_reducible repeat (first | refine yM ?_ _ | refine yO ?_ | refine yN ?_ _)); refine blk_far ?_ NB40_197.out _; (with_reducible repeat (first | refine yM ?_ _ | refine yO ?_ | refine yN ?_ _)); exact BK40.out⟩
            have n1_ : Aside0 (((((w4.setCell ⟨gb197, 0, none⟩ (.int .i64 a0_4)).setCell ⟨gb197, 1, none⟩ (.int .i64 a0_5)).setCell ⟨gb197, 2, none⟩ (.int .i64 a0_6)).setCell ⟨gb197, 3, none⟩ (.int .i64 a0_7)).heap[gb197]? = some (.cells #[.int .i64 a0_4, .int .i64 a0_5, .int .i64 a0_6, .int .i64 a0_7] 45 (0, 0))) := ⟨by (with_reducible repeat (first | refine yM ?_ _ | refine yO ?_ | refine yN ?_ _)); refine blk_put (cs := #[.int .i64 a0_4, .int .i64 a0_5, .int .i64 a0_6, .int .i64 0]) ?_ 3 _ rfl; (with_reducible repeat (first | refine yM ?_ _ | refine yO ?_ | refine yN ?_ _)); refine blk_put (cs := #[.int .i64 a0_4, .int .i64 a0_5, .int .i64 0, .int .i64 0]) ?_ 2 _ rfl; (with_reducible repeat (first | refine yM ?_ _ | refine yO ?_ | refine yN ?_ _)); refine blk_put (cs := #[.int .i64 a0_4, .int .i64 0, .int .i64 0, .int .i64 0]) ?_ 1 _ rfl; (with_reducible repeat (first | refine yM ?_ _ | refine yO ?_ | refine yN ?_ _)); refine blk_put (cs := #[.int .i64 0, .int .i64 0, .int .i64 0, .int .i64 0]) ?_ 0 _ rfl; (with_reducible repeat (first | refine yM ?_ _ | refine yO ?_ | refine yN ?_ _)); exact BK197.out⟩
            have n2_ : Aside0 (Below w.heap.size w ((((w4.setCell ⟨gb197, 0, none⟩ (.int .i64 a0_4)).setCell ⟨gb197, 1, none⟩ (.int .i64 a0_5)).setCell ⟨gb197, 2, none⟩ (.int .i64 a0_6)).setCell ⟨gb197, 3, none⟩ (.int .i64 a0_7))) := ⟨by repeat (first | (with_reducible first | exact HB.out | apply yQ | apply yL | apply yP | refine yE ?_ GE40.out | refine yE ?_ GE197.out) | exact HB.out)⟩
            (try clear BK40); (try clear BK197); (try clear HB)
            generalize ((((w4.setCell ⟨gb197, 0, none⟩ (.int .i64 a0_4)).setCell ⟨gb197, 1, none⟩ (.int .i64 a0_5)).setCell ⟨gb197, 2, none⟩ (.int .i64 a0_6)).setCell ⟨gb197, 3, none⟩ (.int .i64 a0_7)) = w13 at n0_ n1_ n2_ ⊢
            have BK40 := n0_; have BK197 := n1_; have HB := n2_; clear n0_ n1_ n2_
            have n0_ := yD (yO BK40.out)
            have n1_ := yD (yO BK197.out)
            have n2_ := yD (yP HB.out)
            clear BK40 BK197 HB; have BK40 := n0_; have BK197 := n1_; have HB := n2_; clear n0_ n1_ n2_
            refine start_ (n := 38) (S := fun w' => w'.cell? ⟨g0_0, 0, none⟩ = some (.slice A0_0 l0_0.length c0_0) ∧ w'.cell? ⟨g0_0, 1, none⟩ = some (.slice A0_1 l0_1.length c0_1) ∧ w'.cell? ⟨g0_0, 2, none⟩ = some (.int .i64 a0_2) ∧ w'.cell? ⟨g0_0, 3, none⟩ = some (.bool true) ∧ w'.cell? ⟨g0_0, 4, none⟩ = some (.int .i64 a0_4) ∧ w'.cell? ⟨g0_0, 5, none⟩ = some (.int .i64 a0_5) ∧ w'.cell? ⟨g0_0, 6, none⟩ = some (.int .i64 a0_6) ∧ w'.cell? ⟨g0_0, 7, none⟩ = some (.int .i64 a0_7) ∧ w'.cell? ⟨g0_0, 8, none⟩ = some (.int .i64 a0_8) ∧ w'.cell? ⟨g0_0, 9, none⟩ = some (.int .i64 a0_9) ∧ w'.cell? ⟨g0_0, 10, none⟩ = some (.slice A0_10 l0_10.length c0_10) ∧ w'.cell? ⟨g0_0, 11, none⟩ = some (.slice A0_11 l0_11.length c0_11) ∧ w'.cell? ⟨gb197, 0, none⟩ = some (.int .i64 a0_4) ∧ w'.cell? ⟨gb197, 1, none⟩ = some (.int .i64 a0_5) ∧ w'.cell? ⟨gb197, 2, none⟩ = some (.int .i64 a0_6) ∧ w'.cell? ⟨gb197, 3, none⟩ = some (.int .i64 a0_7)) (ds := []) (bz 38 0) (by kernel_rfl) rfl rfl ⟨(yG BK40.out 0).trans rfl, (yG BK40.out 1).trans rfl, (yG BK40.out 2).trans rfl, (yG BK40.out 3).trans rfl, (yG BK40.out 4).trans rfl, (yG BK40.out 5).trans rfl, (yG BK40.out 6).trans rfl, (yG BK40.out 7).trans rfl, (yG BK40.out 8).trans rfl, (yG BK40.out 9).trans rfl, (yG BK40.out 10).trans rfl, (yG BK40.out 11).trans rfl, (yG BK197.out 0).trans rfl, (yG BK197.out 1).trans rfl, (yG BK197.out 2).trans rfl, (yG BK197.out 3).trans rfl⟩ (fun hHeld => ?_); refine with_tabW spec_l12Ok_c48.tab2 spec_l12Ok_c48.bits2 (fun HT_ HW_ => ?_)
            generalize w13.drew = w14 at BK40 BK197 HB hHeld ⊢
            refine qA 0 8 (bz 38 1) HT_ ?_
            refine qA 1 9 (bz 38 3) HT_ ?_
            refine qA 2 10 (bz 38 7) HT_ ?_
            refine one_ (i := 3) (N := some 11) (bz 38 15) rfl rfl (one_of HT_.out (by kernel_rfl)) (by decide) (fun K hK => ?_)
            refine goes_ Try.func21 (by kernel_rfl) rfl #[.pointer (some ⟨g0_0, 0, none⟩)] (by rfl) rfl rfl (by (try simp only [zK, zL, zM]); first | done | rfl | (simp only [zN, zO]; rfl)) ?_
            with_reducible refine (spec_l09Ok_c48.calls k g0_0 A0_0 c0_0 l0_0 A0_1 c0_1 l0_1 a0_2 true a0_4 a0_5 a0_6 a0_7 a0_8 a0_9 A0_10 c0_10 l0_10 A0_11 c0_11 l0_11 true _ ?side1 ?side2 ?side3 ?side4 ?side5 ?side6 ?side7 ?side8 ?side9 A7.out).mono ?_
            (case side1 => repeat (first | exact (yY HR0_0.out HB.out) | (with_reducible first | refine yV ?_ _ | refine yW ?_ _ | refine yX ?_)))
            (case side2 => exact HC0_0.out)
            (case side3 => repeat (first | exact (yY HR0_1.out HB.out) | (with_reducible first | refine yV ?_ _ | refine yW ?_ _ | refine yX ?_)))
            (case side4 => exact HC0_1.out)
            (case side5 => repeat (first | exact (yY HR0_10.out HB.out) | (with_reducible first | refine yV ?_ _ | refine yW ?_ _ | refine yX ?_)))
            (case side6 => exact HC0_10.out)
            (case side7 => repeat (first | exact (yY HR0_11.out HB.out) | (with_reducible first | refine yV ?_ _ | refine yW ?_ _ | refine yX ?_)))
            (case side8 => exact HC0_11.out)
            (case side9 => (with_reducible repeat (first | refine yM ?_ _ | refine yO ?_ | refine yN ?_ _)); exact BK40.out)
            rintro e w15 ⟨rfl, hb⟩
            refine ⟨_, rfl, ?_⟩
            have n0_ := yD (zB (g := g0_0) (o := .cells #[.slice A0_0 l0_0.length c0_0, .slice A0_1 l0_1.length c0_1, .int .i64 a0_2, .bool true, .int .i64 a0_4, .int .i64 a0_5, .int .i64 a0_6, .int .i64 a0_7, .int .i64 a0_8, .int .i64 a0_9, .slice A0_10 l0_10.length c0_10, .slice A0_11 l0_11.length c0_11] 48 (0, 0)) (by (with_reducible repeat (first | refine yM ?_ _ | refine yO ?_ | refine yN ?_ _)); exact BK40.out) hb)
            have n1_ := yD (zB (g := gb197) (o := .cells #[.int .i64 a0_4, .int .i64 a0_5, .int .i64 a0_6, .int .i64 a0_7] 45 (0, 0)) (by (with_reducible repeat (first | refine yM ?_ _ | refine yO ?_ | refine yN ?_ _)); exact BK197.out) hb)
            have n2_ := yD (zC (by repeat (first | (with_reducible first | exact HB.out | apply yQ | apply yL | apply yP | refine yE ?_ GE40.out | refine yE ?_ GE197.out) | exact HB.out)) hb)
            clear BK40 BK197 HB; have BK40 := n0_; have BK197 := n1_; have HB := n2_; clear n0_ n1_ n2_; (try clear hb); (try clear hb2); (try clear hk); (try clear hi)
            refine hK.out _ _ ⟨(yG BK40.out 0).trans rfl, (yG BK40.out 1).trans rfl, (yG BK40.out 2).trans rfl, (yG BK40.out 3).trans rfl, (yG BK40.out 4).trans rfl, (yG BK40.out 5).trans rfl, (yG BK40.out 6).trans rfl, (yG BK40.out 7).trans rfl, (yG BK40.out 8).trans rfl, (yG BK40.out 9).trans rfl, (yG BK40.out 10).trans rfl, (yG BK40.out 11).trans rfl, (yG BK197.out 0).trans rfl, (yG BK197.out 1).trans rfl, (yG BK197.out 2).trans rfl, (yG BK197.out 3).trans rfl⟩ (fun hHeld => ?_)
            clear hK K
            refine norm_ (a' := ?_) ?_ ?_
            rotate_left
            · show Act.put _ (some 11) _ = _
              simp only [Act.put, zH, zI, zJ, i64_w, i32_w]
              rfl
            refine qA 4 12 (bz 38 31) HT_ ?_
            refine qA 5 13 (bz 38 63) HT_ ?_
            refine qA 6 14 (bz 38 127) HT_ ?_
            refine qA 7 15 (bz 38 255) HT_ ?_
            refine qA 8 16 (bz 38 511) HT_ ?_
            refine qA 9 17 (bz 38 1023) HT_ ?_
            refine qC 10 18 (bz 38 2047) HT_ HW_ hHeld ?_ (hy := by rintro w' ⟨s0, s1, s2, s3, s4, s5, s6, s7, s8, s9, s10, s11, s12, s13, s14, s15⟩; go_simp; with_reducible rfl)
            refine qA 11 19 (bz 38 4095) HT_ ?_
            refine qA 12 20 (bz 38 8191) HT_ ?_
            refine qA 13 21 (bz 38 16383) HT_ ?_
            refine qA 14 22 (bz 38 32767) HT_ ?_
            refine qA 15 23 (bz 38 65535) HT_ ?_
            refine qA 16 24 (bz 38 131071) HT_ ?_
            refine qA 17 25 (bz 38 262143) HT_ ?_
            refine qC 18 26 (bz 38 524287) HT_ HW_ hHeld ?_ (hy := by rintro w' ⟨s0, s1, s2, s3, s4, s5, s6, s7, s8, s9, s10, s11, s12, s13, s14, s15⟩; go_simp; with_reducible rfl)
            refine qA 19 27 (bz 38 1048575) HT_ ?_
            refine qA 20 28 (bz 38 2097151) HT_ ?_
            refine qA 21 29 (bz 38 4194303) HT_ ?_
            refine qA 22 30 (bz 38 8388607) HT_ ?_
            refine qC 23 31 (bz 38 16777215) HT_ HW_ hHeld ?_ (hy := by rintro w' ⟨s0, s1, s2, s3, s4, s5, s6, s7, s8, s9, s10, s11, s12, s13, s14, s15⟩; go_simp; with_reducible rfl)
            refine one_ (i := 24) (N := some 32) (bz 38 33554431) rfl rfl (one_of HT_.out (by kernel_rfl)) (by decide) (fun K hK => ?_)
            refine goes_ Try.func57 (by kernel_rfl) rfl #[.agg #[.int .i64 a0_4, .int .i64 a0_5, .int .i64 a0_6, .int .i64 a0_7]] (by rfl) rfl rfl (by (try simp only [zK, zL, zM]); first | done | rfl | (simp only [zN, zO]; rfl)) ?_
            with_reducible refine (spec_ValidSuper.calls a0_4 a0_5 a0_6 a0_7 true _ A11.out).mono ?_
            rintro e w16 ⟨rfl, hb⟩
            refine ⟨_, rfl, ?_⟩
            have n0_ := yD (zB (g := g0_0) (o := .cells #[.slice A0_0 l0_0.length c0_0, .slice A0_1 l0_1.length c0_1, .int .i64 a0_2, .bool true, .int .i64 a0_4, .int .i64 a0_5, .int .i64 a0_6, .int .i64 a0_7, .int .i64 a0_8, .int .i64 a0_9, .slice A0_10 l0_10.length c0_10, .slice A0_11 l0_11.length c0_11] 48 (0, 0)) (by (with_reducible repeat (first | refine yM ?_ _ | refine yO ?_ | refine yN ?_ _)); exact BK40.out) hb)
            have n1_ := yD (zB (g := gb197) (o := .cells #[.int .i64 a0_4, .int .i64 a0_5, .int .i64 a0_6, .int .i64 a0_7] 45 (0, 0)) (by (with_reducible repeat (first | refine yM ?_ _ | refine yO ?_ | refine yN ?_ _)); exact BK197.out) hb)
            have n2_ := yD (zC (by repeat (first | (with_reducible first | exact HB.out | apply yQ | apply yL | apply yP | refine yE ?_ GE40.out | refine yE ?_ GE197.out) | exact HB.out)) hb)
            clear BK40 BK197 HB; have BK40 := n0_; have BK197 := n1_; have HB := n2_; clear n0_ n1_ n2_; (try clear hb); (try clear hb2); (try clear hk); (try clear hi)
            refine hK.out _ _ ⟨(yG BK40.out 0).trans rfl, (yG BK40.out 1).trans rfl, (yG BK40.out 2).trans rfl, (yG BK40.out 3).trans rfl, (yG BK40.out 4).trans rfl, (yG BK40.out 5).trans rfl, (yG BK40.out 6).trans rfl, (yG BK40.out 7).trans rfl, (yG BK40.out 8).trans rfl, (yG BK40.out 9).trans rfl, (yG BK40.out 10).trans rfl, (yG BK40.out 11).trans rfl, (yG BK197.out 0).trans rfl, (yG BK197.out 1).trans rfl, (yG BK197.out 2).trans rfl, (yG BK197.out 3).trans rfl⟩ (fun hHeld => ?_)
            clear hK K
            refine norm_ (a' := ?_) ?_ ?_
            rotate_left
            · show Act.put _ (some 32) _ = _
              simp only [Act.put, zH, zI, zJ, i64_w, i32_w]
              rfl
            refine qA 25 33 (bz 38 67108863) HT_ ?_
            refine qA 26 34 (bz 38 134217727) HT_ ?_
            refine qA 27 35 (bz 38 268435455) HT_ ?_
            refine qA 28 36 (bz 38 536870911) HT_ ?_
            refine qA 30 38 (bz 38 1610612735) HT_ ?_
            refine qA 31 39 (bz 38 3758096383) HT_ ?_
            refine qA 32 40 (bz 38 8053063679) HT_ ?_
            refine qA 33 41 (bz 38 16642998271) HT_ ?_
            refine qC 29 37 (bz 38 17179869183) HT_ HW_ hHeld ?_ (hy := by rintro w' ⟨s0, s1, s2, s3, s4, s5, s6, s7, s8, s9, s10, s11, s12, s13, s14, s15⟩; go_simp; with_reducible rfl)
            refine qC 34 42 (bz 38 34359738367) HT_ HW_ hHeld ?_ (hy := by rintro w' ⟨s0, s1, s2, s3, s4, s5, s6, s7, s8, s9, s10, s11, s12, s13, s14, s15⟩; go_simp; with_reducible rfl)
            refine qA 35 43 (bz 38 68719476735) HT_ ?_
            refine qA 36 44 (bz 38 137438953471) HT_ ?_
            refine qA 37 45 (bz 38 274877906943) HT_ ?_
            refine done_ (done_of HT_.out (by kernel_rfl)) ?_
            try go_wp2
            go_meet
            case rel => exact ⟨_, ((a0_4 != (l0_0.length : Int))), (by first | rfl | (simp; done) | (simp [*]; done)), H', ⟨by first | omega | exact Nat.le_refl _⟩, ⟨by (with_reducible repeat (first | refine yM ?_ _ | refine yO ?_ | refine yN ?_ _)); exact BK40.out⟩, ⟨by (with_reducible repeat (first | refine yM ?_ _ | refine yO ?_ | refine yN ?_ _)); exact BK197.out⟩, ⟨by repeat (first | (with_reducible first | exact HB.out | apply yQ | apply yL | apply yP | refine yE ?_ GE40.out | refine yE ?_ GE197.out) | exact HB.out)⟩⟩
          · replace c12 := Bool.eq_false_iff.mpr c12
            subst c12
            have H1 : (spec_l12Ok_c48.j0 k true l0_0 l0_1 a0_2 true a0_4 a0_5 a0_6 a0_7 a0_8 a0_9 l0_10 l0_11 a0_4 a0_5 a0_6 a0_7) = some r := by rw [if_neg (show ¬ (false = true) by decide)] at H; exact H
            clear H; have H := H1; clear H1
            have H' := yD H
            clear H
            try go_wp2
            have n0_ : Aside0 (((((w4.setCell ⟨gb197, 0, none⟩ (.int .i64 a0_4)).setCell ⟨gb197, 1, none⟩ (.int .i64 a0_5)).setCell ⟨gb197, 2, none⟩ (.int .i64 a0_6)).setCell ⟨gb197, 3, none⟩ (.int .i64 a0_7)).heap[g0_0]? = some (.cells #[.slice A0_0 l0_0.length c0_0, .slice A0_1 l0_1.length c0_1, .int .i64 a0_2, .bool true, .int .i64 a0_4, .int .i64 a0_5, .int .i64 a0_6, .int .i64 a0_7, .int .i64 a0_8, .int .i64 a0_9, .slice A0_10 l0_10.length c0_10, .slice A0_11 l0_11.length c0_11] 48 (0, 0))) := ⟨by (with_reducible repeat (first | refine yM ?_ _ | refine yO ?_ | refine yN ?_ _)); refine blk_far ?_ NB40_197.out _; (with_reducible repeat (first | refine yM ?_ _ | refine yO ?_ | refine yN ?_ _)); refine blk_far ?_ NB40_197.out _; (with_reducible repeat (first | refine yM ?_ _ | refine yO ?_ | refine yN ?_ _)); refine blk_far ?_ NB40_197.out _; (with_reducible repeat (first | refine yM ?_ _ | refine yO ?_ | refine yN ?_ _)); refine blk_far ?_ NB40_197.out _; (with_reducible repeat (first | refine yM ?_ _ | refine yO ?_ | refine yN ?_ _)); exact BK40.out⟩
            have n1_ : Aside0 (((((w4.setCell ⟨gb197, 0, none⟩ (.int .i64 a0_4)).setCell ⟨gb197, 1, none⟩ (.int .i64 a0_5)).setCell ⟨gb197, 2, none⟩ (.int .i64 a0_6)).setCell ⟨gb197, 3, none⟩ (.int .i64 a0_7)).heap[gb197]? = some (.cells #[.int .i64 a0_4, .int .i64 a0_5, .int .i64 a0_6, .int .i64 a0_7] 45 (0, 0))) := ⟨by (with_reducible repeat (first | refine yM ?_ _ | refine yO ?_ | refine yN ?_ _)); refine blk_put (cs := #[.int .i64 a0_4, .int .i64 a0_5, .int .i64 a0_6, .int .i64 0]) ?_ 3 _ rfl; (with_reducible repeat (first | refine yM ?_ _ | refine yO ?_ | refine yN ?_ _)); refine blk_put (cs := #[.int .i64 a0_4, .int .i64 a0_5, .int .i64 0, .int .i64 0]) ?_ 2 _ rfl; (with_reducible repeat (first | refine yM ?_ _ | refine yO ?_ | refine yN ?_ _)); refine blk_put (cs := #[.int .i64 a0_4, .int .i64 0, .int .i64 0, .int .i64 0]) ?_ 1 _ rfl; (with_reducible repeat (first | refine yM ?_ _ | refine yO ?_ | refine yN ?_ _)); refine blk_put (cs := #[.int .i64 0, .int .i64 0, .int .i64 0, .int .i64 0]) ?_ 0 _ rfl; (with_reducible repeat (first | refine yM ?_ _ | refine yO ?_ | refine yN ?_ _)); exact BK197.out⟩
            have n2_ : Aside0 (Below w.heap.size w ((((w4.setCell ⟨gb197, 0, none⟩ (.int .i64 a0_4)).setCell ⟨gb197, 1, none⟩ (.int .i64 a0_5)).setCell ⟨gb197, 2, none⟩ (.int .i64 a0_6)).setCell ⟨gb197, 3, none⟩ (.int .i64 a0_7))) := ⟨by repeat (first | (with_reducible first | exact HB.out | apply yQ | apply yL | apply yP | refine yE ?_ GE40.out | refine yE ?_ GE197.out) | exact HB.out)⟩
            (try clear BK40); (try clear BK197); (try clear HB)
            generalize ((((w4.setCell ⟨gb197, 0, none⟩ (.int .i64 a0_4)).setCell ⟨gb197, 1, none⟩ (.int .i64 a0_5)).setCell ⟨gb197, 2, none⟩ (.int .i64 a0_6)).setCell ⟨gb197, 3, none⟩ (.int .i64 a0_7)) = w17 at n0_ n1_ n2_ ⊢
            have BK40 := n0_; have BK197 := n1_; have HB := n2_; clear n0_ n1_ n2_
            have n0_ := yD (yO BK40.out)
            have n1_ := yD (yO BK197.out)
            have n2_ := yD (yP HB.out)
            clear BK40 BK197 HB; have BK40 := n0_; have BK197 := n1_; have HB := n2_; clear n0_ n1_ n2_
            refine start_ (n := 38) (S := fun w' => w'.cell? ⟨g0_0, 0, none⟩ = some (.slice A0_0 l0_0.length c0_0) ∧ w'.cell? ⟨g0_0, 1, none⟩ = some (.slice A0_1 l0_1.length c0_1) ∧ w'.cell? ⟨g0_0, 2, none⟩ = some (.int .i64 a0_2) ∧ w'.cell? ⟨g0_0, 3, none⟩ = some (.bool true) ∧ w'.cell? ⟨g0_0, 4, none⟩ = some (.int .i64 a0_4) ∧ w'.cell? ⟨g0_0, 5, none⟩ = some (.int .i64 a0_5) ∧ w'.cell? ⟨g0_0, 6, none⟩ = some (.int .i64 a0_6) ∧ w'.cell? ⟨g0_0, 7, none⟩ = some (.int .i64 a0_7) ∧ w'.cell? ⟨g0_0, 8, none⟩ = some (.int .i64 a0_8) ∧ w'.cell? ⟨g0_0, 9, none⟩ = some (.int .i64 a0_9) ∧ w'.cell? ⟨g0_0, 10, none⟩ = some (.slice A0_10 l0_10.length c0_10) ∧ w'.cell? ⟨g0_0, 11, none⟩ = some (.slice A0_11 l0_11.length c0_11) ∧ w'.cell? ⟨gb197, 0, none⟩ = some (.int .i64 a0_4) ∧ w'.cell? ⟨gb197, 1, none⟩ = some (.int .i64 a0_5) ∧ w'.cell? ⟨gb197, 2, none⟩ = some (.int .i64 a0_6) ∧ w'.cell? ⟨gb197, 3, none⟩ = some (.int .i64 a0_7)) (ds := []) (bz 38 0) (by kernel_rfl) rfl rfl ⟨(yG BK40.out 0).trans rfl, (yG BK40.out 1).trans rfl, (yG BK40.out 2).trans rfl, (yG BK40.out 3).trans rfl, (yG BK40.out 4).trans rfl, (yG BK40.out 5).trans rfl, (yG BK40.out 6).trans rfl, (yG BK40.out 7).trans rfl, (yG BK40.out 8).trans rfl, (yG BK40.out 9).trans rfl, (yG BK40.out 10).trans rfl, (yG BK40.out 11).trans rfl, (yG BK197.out 0).trans rfl, (yG BK197.out 1).trans rfl, (yG BK197.out 2).trans rfl, (yG BK197.out 3).trans rfl⟩ (fun hHeld => ?_); refine with_tabW spec_l12Ok_c48.tab2 spec_l12Ok_c48.bits2 (fun HT_ HW_ => ?_)
            generalize w17.drew = w18 at BK40 BK197 HB hHeld ⊢
            refine qA 0 8 (bz 38 1) HT_ ?_
            refine qA 1 9 (bz 38 3) HT_ ?_
            refine qA 2 10 (bz 38 7) HT_ ?_
            refine one_ (i := 3) (N := some 11) (bz 38 15) rfl rfl (one_of HT_.out (by kernel_rfl)) (by decide) (fun K hK => ?_)
            refine goes_ Try.func21 (by kernel_rfl) rfl #[.pointer (some ⟨g0_0, 0, none⟩)] (by rfl) rfl rfl (by (try simp only [zK, zL, zM]); first | done | rfl | (simp only [zN, zO]; rfl)) ?_
            with_reducible refine (spec_l09Ok_c48.calls k g0_0 A0_0 c0_0 l0_0 A0_1 c0_1 l0_1 a0_2 true a0_4 a0_5 a0_6 a0_7 a0_8 a0_9 A0_10 c0_10 l0_10 A0_11 c0_11 l0_11 true _ ?side1 ?side2 ?side3 ?side4 ?side5 ?side6 ?side7 ?side8 ?side9 A7.out).mono ?_
            (case side1 => repeat (first | exact (yY HR0_0.out HB.out) | (with_reducible first | refine yV ?_ _ | refine yW ?_ _ | refine yX ?_)))
            (case side2 => exact HC0_0.out)
            (case side3 => repeat (first | exact (yY HR0_1.out HB.out) | (with_reducible first | refine yV ?_ _ | refine yW ?_ _ | refine yX ?_)))
            (case side4 => exact HC0_1.out)
            (case side5 => repeat (first | exact (yY HR0_10.out HB.out) | (with_reducible first | refine yV ?_ _ | refine yW ?_ _ | refine yX ?_)))
            (case side6 => exact HC0_10.out)
            (case side7 => repeat (first | exact (yY HR0_11.out HB.out) | (with_reducible first | refine yV ?_ _ | refine yW ?_ _ | refine yX ?_)))
            (case side8 => exact HC0_11.out)
            (case side9 => (with_reducible repeat (first | refine yM ?_ _ | refine yO ?_ | refine yN ?_ _)); exact BK40.out)
            rintro e w19 ⟨rfl, hb⟩
            refine ⟨_, rfl, ?_⟩
            have n0_ := yD (zB (g := g0_0) (o := .cells #[.slice A0_0 l0_0.length c0_0, .slice A0_1 l0_1.length c0_1, .int .i64 a0_2, .bool true, .int .i64 a0_4, .int .i64 a0_5, .int .i64 a0_6, .int .i64 a0_7, .int .i64 a0_8, .int .i64 a0_9, .slice A0_10 l0_10.length c0_10, .slice A0_11 l0_11.length c0_11] 48 (0, 0)) (by (with_reducible repeat (first | refine yM ?_ _ | refine yO ?_ | refine yN ?_ _)); exact BK40.out) hb)
            have n1_ := yD (zB (g := gb197) (o := .cells #[.int .i64 a0_4, .int .i64 a0_5, .int .i64 a0_6, .int .i64 a0_7] 45 (0, 0)) (by (with_reducible repeat (first | refine yM ?_ _ | refine yO ?_ | refine yN ?_ _)); exact BK197.out) hb)
            have n2_ := yD (zC (by repeat (first | (with_reducible first | exact HB.out | apply yQ | apply yL | apply yP | refine yE ?_ GE40.out | refine yE ?_ GE197.out) | exact HB.out)) hb)
            clear BK40 BK197 HB; have BK40 := n0_; have BK197 := n1_; have HB := n2_; clear n0_ n1_ n2_; (try clear hb); (try clear hb2); (try clear hk); (try clear hi)
            refine hK.out _ _ ⟨(yG BK40.out 0).trans rfl, (yG BK40.out 1).trans rfl, (yG BK40.out 2).trans rfl, (yG BK40.out 3).trans rfl, (yG BK40.out 4).trans rfl, (yG BK40.out 5).trans rfl, (yG BK40.out 6).trans rfl, (yG BK40.out 7).trans rfl, (yG BK40.out 8).trans rfl, (yG BK40.out 9).trans rfl, (yG BK40.out 10).trans rfl, (yG BK40.out 11).trans rfl, (yG BK197.out 0).trans rfl, (yG BK197.out 1).trans rfl, (yG BK197.out 2).trans rfl, (yG BK197.out 3).trans rfl⟩ (fun hHeld => ?_)
            clear hK K
            refine norm_ (a' := ?_) ?_ ?_
            rotate_left
            · show Act.put _ (some 11) _ = _
              simp only [Act.put, zH, zI, zJ, i64_w, i32_w]
              rfl
            refine qA 4 12 (bz 38 31) HT_ ?_
            refine qA 5 13 (bz 38 63) HT_ ?_
            refine qA 6 14 (bz 38 127) HT_ ?_
            refine qA 7 15 (bz 38 255) HT_ ?_
            refine qA 8 16 (bz 38 511) HT_ ?_
            refine qA 9 17 (bz 38 1023) HT_ ?_
            refine qC 10 18 (bz 38 2047) HT_ HW_ hHeld ?_ (hy := by rintro w' ⟨s0, s1, s2, s3, s4, s5, s6, s7, s8, s9, s10, s11, s12, s13, s14, s15⟩; go_simp; with_reducible rfl)
            refine qA 11 19 (bz 38 4095) HT_ ?_
            refine qA 12 20 (bz 38 8191) HT_ ?_
            refine qA 13 21 (bz 38 16383) HT_ ?_
            refine qA 14 22 (bz 38 32767) HT_ ?_
            refine qA 15 23 (bz 38 65535) HT_ ?_
            refine qA 16 24 (bz 38 131071) HT_ ?_
            refine qA 17 25 (bz 38 262143) HT_ ?_
            refine qC 18 26 (bz 38 524287) HT_ HW_ hHeld ?_ (hy := by rintro w' ⟨s0, s1, s2, s3, s4, s5, s6, s7, s8, s9, s10, s11, s12, s13, s14, s15⟩; go_simp; with_reducible rfl)
            refine qA 19 27 (bz 38 1048575) HT_ ?_
            refine qA 20 28 (bz 38 2097151) HT_ ?_
            refine qA 21 29 (bz 38 4194303) HT_ ?_
            refine qA 22 30 (bz 38 8388607) HT_ ?_
            refine qC 23 31 (bz 38 16777215) HT_ HW_ hHeld ?_ (hy := by rintro w' ⟨s0, s1, s2, s3, s4, s5, s6, s7, s8, s9, s10, s11, s12, s13, s14, s15⟩; go_simp; with_reducible rfl)
            refine one_ (i := 24) (N := some 32) (bz 38 33554431) rfl rfl (one_of HT_.out (by kernel_rfl)) (by decide) (fun K hK => ?_)
            refine goes_ Try.func57 (by kernel_rfl) rfl #[.agg #[.int .i64 a0_4, .int .i64 a0_5, .int .i64 a0_6, .int .i64 a0_7]] (by rfl) rfl rfl (by (try simp only [zK, zL, zM]); first | done | rfl | (simp only [zN, zO]; rfl)) ?_
            with_reducible refine (spec_ValidSuper.calls a0_4 a0_5 a0_6 a0_7 false _ A11.out).mono ?_
            rintro e w20 ⟨rfl, hb⟩
            refine ⟨_, rfl, ?_⟩
            have n0_ := yD (zB (g := g0_0) (o := .cells #[.slice A0_0 l0_0.length c0_0, .slice A0_1 l0_1.length c0_1, .int .i64 a0_2, .bool true, .int .i64 a0_4, .int .i64 a0_5, .int .i64 a0_6, .int .i64 a0_7, .int .i64 a0_8, .int .i64 a0_9, .slice A0_10 l0_10.length c0_10, .slice A0_11 l0_11.length c0_11] 48 (0, 0)) (by (with_reducible repeat (first | refine yM ?_ _ | refine yO ?_ | refine yN ?_ _)); exact BK40.out) hb)
            have n1_ := yD (zB (g := gb197) (o := .cells #[.int .i64 a0_4, .int .i64 a0_5, .int .i64 a0_6, .int .i64 a0_7] 45 (0, 0)) (by (with_reducible repeat (first | refine yM ?_ _ | refine yO ?_ | refine yN ?_ _)); exact BK197.out) hb)
            have n2_ := yD (zC (by repeat (first | (with_reducible first | exact HB.out | apply yQ | apply yL | apply yP | refine yE ?_ GE40.out | refine yE ?_ GE197.out) | exact HB.out)) hb)
            clear BK40 BK197 HB; have BK40 := n0_; have BK197 := n1_; have HB := n2_; clear n0_ n1_ n2_; (try clear hb); (try clear hb2); (try clear hk); (try clear hi)
            refine hK.out _ _ ⟨(yG BK40.out 0).trans rfl, (yG BK40.out 1).trans rfl, (yG BK40.out 2).trans rfl, (yG BK40.out 3).trans rfl, (yG BK40.out 4).trans rfl, (yG BK40.out 5).trans rfl, (yG BK40.out 6).trans rfl, (yG BK40.out 7).trans rfl, (yG BK40.out 8).trans rfl, (yG BK40.out 9).trans rfl, (yG BK40.out 10).trans rfl, (yG BK40.out 11).trans rfl, (yG BK197.out 0).trans rfl, (yG BK197.out 1).trans rfl, (yG BK197.out 2).trans rfl, (yG BK197.out 3).trans rfl⟩ (fun hHeld => ?_)
            clear hK K
            refine norm_ (a' := ?_) ?_ ?_
            rotate_left
            · show Act.put _ (some 32) _ = _
              simp only [Act.put, zH, zI, zJ, i64_w, i32_w]
              rfl
            refine qA 25 33 (bz 38 67108863) HT_ ?_
            refine qA 26 34 (bz 38 134217727) HT_ ?_
            refine qA 27 35 (bz 38 268435455) HT_ ?_
            refine qB 28 36 (bz 38 536870911) HT_ ?_
            refine qB 29 37 (bz 38 1073741823) HT_ ?_
            refine qB 30 38 (bz 38 2147483647) HT_ ?_
            refine qB 31 39 (bz 38 4294967295) HT_ ?_
            refine qB 32 40 (bz 38 8589934591) HT_ ?_
            refine qB 33 41 (bz 38 17179869183) HT_ ?_
            refine qB 34 42 (bz 38 34359738367) HT_ ?_
            refine qB 35 43 (bz 38 68719476735) HT_ ?_
            refine qB 36 44 (bz 38 137438953471) HT_ ?_
            refine qA 37 45 (bz 38 274877906943) HT_ ?_
            refine done_ (done_of HT_.out (by kernel_rfl)) ?_
            try go_wp2
            go_meet
            case rel => exact ⟨_, (true), (by first | rfl | (simp; done) | (simp [*]; done)), H', ⟨by first | omega | exact Nat.le_refl _⟩, ⟨by (with_reducible repeat (first | refine yM ?_ _ | refine yO ?_ | refine yN ?_ _)); exact BK40.out⟩, ⟨by (with_reducible repeat (first | refine yM ?_ _ | refine yO ?_ | refine yN ?_ _)); exact BK197.out⟩, ⟨by repeat (first | (with_reducible first | exact HB.out | apply yQ | apply yL | apply yP | refine yE ?_ GE40.out | refine yE ?_ GE197.out) | exact HB.out)⟩⟩
        · replace c10 := Bool.eq_false_iff.mpr c10
          subst c10
          have H1 : (spec_l12Ok_c48.j0 k true l0_0 l0_1 a0_2 false a0_4 a0_5 a0_6 a0_7 a0_8 a0_9 l0_10 l0_11 a0_4 a0_5 a0_6 a0_7) = some r := by rw [if_neg (show ¬ (false = true) by decide)] at H; exact H
          clear H; have H := H1; clear H1
          have H' := yD H
          clear H
          try go_wp2
          have n0_ : Aside0 (((((w4.setCell ⟨gb197, 0, none⟩ (.int .i64 a0_4)).setCell ⟨gb197, 1, none⟩ (.int .i64 a0_5)).setCell ⟨gb197, 2, none⟩ (.int .i64 a0_6)).setCell ⟨gb197, 3, none⟩ (.int .i64 a0_7)).heap[g0_0]? = some (.cells #[.slice A0_0 l0_0.length c0_0, .slice A0_1 l0_1.length c0_1, .int .i64 a0_2, .bool false, .int .i64 a0_4, .int .i64 a0_5, .int .i64 a0_6, .int .i64 a0_7, .int .i64 a0_8, .int .i64 a0_9, .slice A0_10 l0_10.length c0_10, .slice A0_11 l0_11.length c0_11] 48 (0, 0))) := ⟨by (with_reducible repeat (first | refine yM ?_ _ | refine yO ?_ | refine yN ?_ _)); refine blk_far ?_ NB40_197.out _; (with_reducible repeat (first | refine yM ?_ _ | refine yO ?_ | refine yN ?_ _)); refine blk_far ?_ NB40_197.out _; (with_reducible repeat (first | refine yM ?_ _ | refine yO ?_ | refine yN ?_ _)); refine blk_far ?_ NB40_197.out _; (with_reducible repeat (first | refine yM ?_ _ | refine yO ?_ | refine yN ?_ _)); refine blk_far ?_ NB40_197.out _; (with_reducible repeat (first | refine yM ?_ _ | refine yO ?_ | refine yN ?_ _)); exact BK40.out⟩
          have n1_ : Aside0 (((((w4.setCell ⟨gb197, 0, none⟩ (.int .i64 a0_4)).setCell ⟨gb197, 1, none⟩ (.int .i64 a0_5)).setCell ⟨gb197, 2, none⟩ (.int .i64 a0_6)).setCell ⟨gb197, 3, none⟩ (.int .i64 a0_7)).heap[gb197]? = some (.cells #[.int .i64 a0_4, .int .i64 a0_5, .int .i64 a0_6, .int .i64 a0_7] 45 (0, 0))) := ⟨by (with_reducible repeat (first | refine yM ?_ _ | refine yO ?_ | refine yN ?_ _)); refine blk_put (cs := #[.int .i64 a0_4, .int .i64 a0_5, .int .i64 a0_6, .int .i64 0]) ?_ 3 _ rfl; (with_reducible repeat (first | refine yM ?_ _ | refine yO ?_ | refine yN ?_ _)); refine blk_put (cs := #[.int .i64 a0_4, .int .i64 a0_5, .int .i64 0, .int .i64 0]) ?_ 2 _ rfl; (with_reducible repeat (first | refine yM ?_ _ | refine yO ?_ | refine yN ?_ _)); refine blk_put (cs := #[.int .i64 a0_4, .int .i64 0, .int .i64 0, .int .i64 0]) ?_ 1 _ rfl; (with_reducible repeat (first | refine yM ?_ _ | refine yO ?_ | refine yN ?_ _)); refine blk_put (cs := #[.int .i64 0, .int .i64 0, .int .i64 0, .int .i64 0]) ?_ 0 _ rfl; (with_reducible repeat (first | refine yM ?_ _ | refine yO ?_ | refine yN ?_ _)); exact BK197.out⟩
          have n2_ : Aside0 (Below w.heap.size w ((((w4.setCell ⟨gb197, 0, none⟩ (.int .i64 a0_4)).setCell ⟨gb197, 1, none⟩ (.int .i64 a0_5)).setCell ⟨gb197, 2, none⟩ (.int .i64 a0_6)).setCell ⟨gb197, 3, none⟩ (.int .i64 a0_7))) := ⟨by repeat (first | (with_reducible first | exact HB.out | apply yQ | apply yL | apply yP | refine yE ?_ GE40.out | refine yE ?_ GE197.out) | exact HB.out)⟩
          (try clear BK40); (try clear BK197); (try clear HB)
          generalize ((((w4.setCell ⟨gb197, 0, none⟩ (.int .i64 a0_4)).setCell ⟨gb197, 1, none⟩ (.int .i64 a0_5)).setCell ⟨gb197, 2, none⟩ (.int .i64 a0_6)).setCell ⟨gb197, 3, none⟩ (.int .i64 a0_7)) = w21 at n0_ n1_ n2_ ⊢
          have BK40 := n0_; have BK197 := n1_; have HB := n2_; clear n0_ n1_ n2_
          have n0_ := yD (yO BK40.out)
          have n1_ := yD (yO BK197.out)
          have n2_ := yD (yP HB.out)
          clear BK40 BK197 HB; have BK40 := n0_; have BK197 := n1_; have HB := n2_; clear n0_ n1_ n2_
          refine start_ (n := 38) (S := fun w' => w'.cell? ⟨g0_0, 0, none⟩ = some (.slice A0_0 l0_0.length c0_0) ∧ w'.cell? ⟨g0_0, 1, none⟩ = some (.slice A0_1 l0_1.length c0_1) ∧ w'.cell? ⟨g0_0, 2, none⟩ = some (.int .i64 a0_2) ∧ w'.cell? ⟨g0_0, 3, none⟩ = some (.bool false) ∧ w'.cell? ⟨g0_0, 4, none⟩ = some (.int .i64 a0_4) ∧ w'.cell? ⟨g0_0, 5, none⟩ = some (.int .i64 a0_5) ∧ w'.cell? ⟨g0_0, 6, none⟩ = some (.int .i64 a0_6) ∧ w'.cell? ⟨g0_0, 7, none⟩ = some (.int .i64 a0_7) ∧ w'.cell? ⟨g0_0, 8, none⟩ = some (.int .i64 a0_8) ∧ w'.cell? ⟨g0_0, 9, none⟩ = some (.int .i64 a0_9) ∧ w'.cell? ⟨g0_0, 10, none⟩ = some (.slice A0_10 l0_10.length c0_10) ∧ w'.cell? ⟨g0_0, 11, none⟩ = some (.slice A0_11 l0_11.length c0_11)) (ds := []) (bz 38 0) (by kernel_rfl) rfl rfl ⟨(yG BK40.out 0).trans rfl, (yG BK40.out 1).trans rfl, (yG BK40.out 2).trans rfl, (yG BK40.out 3).trans rfl, (yG BK40.out 4).trans rfl, (yG BK40.out 5).trans rfl, (yG BK40.out 6).trans rfl, (yG BK40.out 7).trans rfl, (yG BK40.out 8).trans rfl, (yG BK40.out 9).trans rfl, (yG BK40.out 10).trans rfl, (yG BK40.out 11).trans rfl⟩ (fun hHeld => ?_); refine with_tabW spec_l12Ok_c48.tab2 spec_l12Ok_c48.bits2 (fun HT_ HW_ => ?_)
          generalize w21.drew = w22 at BK40 BK197 HB hHeld ⊢
          refine qA 0 8 (bz 38 1) HT_ ?_
          refine qA 1 9 (bz 38 3) HT_ ?_
          refine qA 2 10 (bz 38 7) HT_ ?_
          refine one_ (i := 3) (N := some 11) (bz 38 15) rfl rfl (one_of HT_.out (by kernel_rfl)) (by decide) (fun K hK => ?_)
          refine goes_ Try.func21 (by kernel_rfl) rfl #[.pointer (some ⟨g0_0, 0, none⟩)] (by rfl) rfl rfl (by (try simp only [zK, zL, zM]); first | done | rfl | (simp only [zN, zO]; rfl)) ?_
          with_reducible refine (spec_l09Ok_c48.calls k g0_0 A0_0 c0_0 l0_0 A0_1 c0_1 l0_1 a0_2 false a0_4 a0_5 a0_6 a0_7 a0_8 a0_9 A0_10 c0_10 l0_10 A0_11 c0_11 l0_11 true _ ?side1 ?side2 ?side3 ?side4 ?side5 ?side6 ?side7 ?side8 ?side9 A7.out).mono ?_
          (case side1 => repeat (first | exact (yY HR0_0.out HB.out) | (with_reducible first | refine yV ?_ _ | refine yW ?_ _ | refine yX ?_)))
          (case side2 => exact HC0_0.out)
          (case side3 => repeat (first | exact (yY HR0_1.out HB.out) | (with_reducible first | refine yV ?_ _ | refine yW ?_ _ | refine yX ?_)))
          (case side4 => exact HC0_1.out)
          (case side5 => repeat (first | exact (yY HR0_10.out HB.out) | (with_reducible first | refine yV ?_ _ | refine yW ?_ _ | refine yX ?_)))
          (case side6 => exact HC0_10.out)
          (case side7 => repeat (first | exact (yY HR0_11.out HB.out) | (with_reducible first | refine yV ?_ _ | refine yW ?_ _ | refine yX ?_)))
          (case side8 => exact HC0_11.out)
          (case side9 => (with_reducible repeat (first | refine yM ?_ _ | refine yO ?_ | refine yN ?_ _)); exact BK40.out)
          rintro e w23 ⟨rfl, hb⟩
          refine ⟨_, rfl, ?_⟩
          have n0_ := yD (zB (g := g0_0) (o := .cells #[.slice A0_0 l0_0.length c0_0, .slice A0_1 l0_1.length c0_1, .int .i64 a0_2, .bool false, .int .i64 a0_4, .int .i64 a0_5, .int .i64 a0_6, .int .i64 a0_7, .int .i64 a0_8, .int .i64 a0_9, .slice A0_10 l0_10.length c0_10, .slice A0_11 l0_11.length c0_11] 48 (0, 0)) (by (with_reducible repeat (first | refine yM ?_ _ | refine yO ?_ | refine yN ?_ _)); exact BK40.out) hb)
          have n1_ := yD (zB (g := gb197) (o := .cells #[.int .i64 a0_4, .int .i64 a0_5, .int .i64 a0_6, .int .i64 a0_7] 45 (0, 0)) (by (with_reducible repeat (first | refine yM ?_ _ | refine yO ?_ | refine yN ?_ _)); exact BK197.out) hb)
          have n2_ := yD (zC (by repeat (first | (with_reducible first | exact HB.out | apply yQ | apply yL | apply yP | refine yE ?_ GE40.out | refine yE ?_ GE197.out) | exact HB.out)) hb)
          clear BK40 BK197 HB; have BK40 := n0_; have BK197 := n1_; have HB := n2_; clear n0_ n1_ n2_; (try clear hb); (try clear hb2); (try clear hk); (try clear hi)
          refine hK.out _ _ ⟨(yG BK40.out 0).trans rfl, (yG BK40.out 1).trans rfl, (yG BK40.out 2).trans rfl, (yG BK40.out 3).trans rfl, (yG BK40.out 4).trans rfl, (yG BK40.out 5).trans rfl, (yG BK40.out 6).trans rfl, (yG BK40.out 7).trans rfl, (yG BK40.out 8).trans rfl, (yG BK40.out 9).trans rfl, (yG BK40.out 10).trans rfl, (yG BK40.out 11).trans rfl⟩ (fun hHeld => ?_)
          clear hK K
          refine norm_ (a' := ?_) ?_ ?_
          rotate_left
          · show Act.put _ (some 11) _ = _
            simp only [Act.put, zH, zI, zJ, i64_w, i32_w]
            rfl
          refine qA 4 12 (bz 38 31) HT_ ?_
          refine qA 5 13 (bz 38 63) HT_ ?_
          refine qA 6 14 (bz 38 127) HT_ ?_
          refine qA 7 15 (bz 38 255) HT_ ?_
          refine qA 8 16 (bz 38 511) HT_ ?_
          refine qA 9 17 (bz 38 1023) HT_ ?_
          refine qC 10 18 (bz 38 2047) HT_ HW_ hHeld ?_ (hy := by rintro w' ⟨s0, s1, s2, s3, s4, s5, s6, s7, s8, s9, s10, s11⟩; go_simp; with_reducible rfl)
          refine qA 11 19 (bz 38 4095) HT_ ?_
          refine qA 12 20 (bz 38 8191) HT_ ?_
          refine qA 13 21 (bz 38 16383) HT_ ?_
          refine qA 14 22 (bz 38 32767) HT_ ?_
          refine qA 15 23 (bz 38 65535) HT_ ?_
          refine qA 16 24 (bz 38 131071) HT_ ?_
          refine qA 17 25 (bz 38 262143) HT_ ?_
          refine qC 18 26 (bz 38 524287) HT_ HW_ hHeld ?_ (hy := by rintro w' ⟨s0, s1, s2, s3, s4, s5, s6, s7, s8, s9, s10, s11⟩; go_simp; with_reducible rfl)
          refine qA 19 27 (bz 38 1048575) HT_ ?_
          refine qA 20 28 (bz 38 2097151) HT_ ?_
          refine qA 21 29 (bz 38 4194303) HT_ ?_
          refine qA 22 30 (bz 38 8388607) HT_ ?_
          refine qB 23 31 (bz 38 16777215) HT_ ?_
          refine qB 24 32 (bz 38 33554431) HT_ ?_
          refine qB 25 33 (bz 38 67108863) HT_ ?_
          refine qA 26 34 (bz 38 134217727) HT_ ?_
          refine qA 27 35 (bz 38 268435455) HT_ ?_
          refine qB 28 36 (bz 38 536870911) HT_ ?_
          refine qB 29 37 (bz 38 1073741823) HT_ ?_
          refine qB 30 38 (bz 38 2147483647) HT_ ?_
          refine qB 31 39 (bz 38 4294967295) HT_ ?_
          refine qB 32 40 (bz 38 8589934591) HT_ ?_
          refine qB 33 41 (bz 38 17179869183) HT_ ?_
          refine qB 34 42 (bz 38 34359738367) HT_ ?_
          refine qB 35 43 (bz 38 68719476735) HT_ ?_
          refine qB 36 44 (bz 38 137438953471) HT_ ?_
          refine qA 37 45 (bz 38 274877906943) HT_ ?_
          refine done_ (done_of HT_.out (by kernel_rfl)) ?_
          try go_wp2
          go_meet
          case rel => exact ⟨_, (true), (by first | rfl | (simp; done) | (simp [*]; done)), H', ⟨by first | omega | exact Nat.le_refl _⟩, ⟨by (with_reducible repeat (first | refine yM ?_ _ | refine yO ?_ | refine yN ?_ _)); exact BK40.out⟩, ⟨by (with_reducible repeat (first | refine yM ?_ _ | refine yO ?_ | refine yN ?_ _)); exact BK197.out⟩, ⟨by repeat (first | (with_reducible first | exact HB.out | apply yQ | apply yL | apply yP | refine yE ?_ GE40.out | refine yE ?_ GE197.out) | exact HB.out)⟩⟩
      · rw [if_neg c9] at H
        have c9b0 : decide (1 < (l0_1.length : Int)) = false := zS c9
        have c9b1 : decide (1 < l0_1.length) = false := zS (by omega)
        clear c9
        (first | rw [c9b0] | (simp only [i64_w, i32_w]; rw [c9b0]) | (simp only [bne] at c9b0; rw [c9b0]) | skip)
        obtain ⟨t200, A240, H⟩ := zW_ H
        replace H : (if t200 = true then (spec_l12Ok_c48.j0 k (a0_4 != (l0_0.length : Int)) l0_0 l0_1 a0_2 a0_3 a0_4 a0_5 a0_6 a0_7 a0_8 a0_9 l0_10 l0_11 a0_4 a0_5 a0_6 a0_7) else (spec_l12Ok_c48.j0 k true l0_0 l0_1 a0_2 a0_3 a0_4 a0_5 a0_6 a0_7 a0_8 a0_9 l0_10 l0_11 a0_4 a0_5 a0_6 a0_7)) = some r := H
        have A24 := yD A240
        clear A240
        by_cases c25 : t200 = true
        · subst c25
          have H1 : (spec_l12Ok_c48.j0 k (a0_4 != (l0_0.length : Int)) l0_0 l0_1 a0_2 a0_3 a0_4 a0_5 a0_6 a0_7 a0_8 a0_9 l0_10 l0_11 a0_4 a0_5 a0_6 a0_7) = some r := by rw [if_pos rfl] at H; exact H
          clear H; have H := H1; clear H1
          have H' := yD H
          clear H
          try go_wp2
          have n0_ : Aside0 (((((w4.setCell ⟨gb197, 0, none⟩ (.int .i64 a0_4)).setCell ⟨gb197, 1, none⟩ (.int .i64 a0_5)).setCell ⟨gb197, 2, none⟩ (.int .i64 a0_6)).setCell ⟨gb197, 3, none⟩ (.int .i64 a0_7)).heap[g0_0]? = some (.cells #[.slice A0_0 l0_0.length c0_0, .slice A0_1 l0_1.length c0_1, .int .i64 a0_2, .bool a0_3, .int .i64 a0_4, .int .i64 a0_5, .int .i64 a0_6, .int .i64 a0_7, .int .i64 a0_8, .int .i64 a0_9, .slice A0_10 l0_10.length c0_10, .slice A0_11 l0_11.length c0_11] 48 (0, 0))) := ⟨by (with_reducible repeat (first | refine yM ?_ _ | refine yO ?_ | refine yN ?_ _)); refine blk_far ?_ NB40_197.out _; (with_reducible repeat (first | refine yM ?_ _ | refine yO ?_ | refine yN ?_ _)); refine blk_far ?_ NB40_197.out _; (with_reducible repeat (first | refine yM ?_ _ | refine yO ?_ | refine yN ?_ _)); refine blk_far ?_ NB40_197.out _; (with_reducible repeat (first | refine yM ?_ _ | refine yO ?_ | refine yN ?_ _)); refine blk_far ?_ NB40_197.out _; (with_reducible repeat (first | refine yM ?_ _ | refine yO ?_ | refine yN ?_ _)); exact BK40.out⟩
          have n1_ : Aside0 (((((w4.setCell ⟨gb197, 0, none⟩ (.int .i64 a0_4)).setCell ⟨gb197, 1, none⟩ (.int .i64 a0_5)).setCell ⟨gb197, 2, none⟩ (.int .i64 a0_6)).setCell ⟨gb197, 3, none⟩ (.int .i64 a0_7)).heap[gb197]? = some (.cells #[.int .i64 a0_4, .int .i64 a0_5, .int .i64 a0_6, .int .i64 a0_7] 45 (0, 0))) := ⟨by (with_reducible repeat (first | refine yM ?_ _ | refine yO ?_ | refine yN ?_ _)); refine blk_put (cs := #[.int .i64 a0_4, .int .i64 a0_5, .int .i64 a0_6, .int .i64 0]) ?_ 3 _ rfl; (with_reducible repeat (first | refine yM ?_ _ | refine yO ?_ | refine yN ?_ _)); refine blk_put (cs := #[.int .i64 a0_4, .int .i64 a0_5, .int .i64 0, .int .i64 0]) ?_ 2 _ rfl; (with_reducible repeat (first | refine yM ?_ _ | refine yO ?_ | refine yN ?_ _)); refine blk_put (cs := #[.int .i64 a0_4, .int .i64 0, .int .i64 0, .int .i64 0]) ?_ 1 _ rfl; (with_reducible repeat (first | refine yM ?_ _ | refine yO ?_ | refine yN ?_ _)); refine blk_put (cs := #[.int .i64 0, .int .i64 0, .int .i64 0, .int .i64 0]) ?_ 0 _ rfl; (with_reducible repeat (first | refine yM ?_ _ | refine yO ?_ | refine yN ?_ _)); exact BK197.out⟩
          have n2_ : Aside0 (Below w.heap.size w ((((w4.setCell ⟨gb197, 0, none⟩ (.int .i64 a0_4)).setCell ⟨gb197, 1, none⟩ (.int .i64 a0_5)).setCell ⟨gb197, 2, none⟩ (.int .i64 a0_6)).setCell ⟨gb197, 3, none⟩ (.int .i64 a0_7))) := ⟨by repeat (first | (with_reducible first | exact HB.out | apply yQ | apply yL | apply yP | refine yE ?_ GE40.out | refine yE ?_ GE197.out) | exact HB.out)⟩
          (try clear BK40); (try clear BK197); (try clear HB)
          generalize ((((w4.setCell ⟨gb197, 0, none⟩ (.int .i64 a0_4)).setCell ⟨gb197, 1, none⟩ (.int .i64 a0_5)).setCell ⟨gb197, 2, none⟩ (.int .i64 a0_6)).setCell ⟨gb197, 3, none⟩ (.int .i64 a0_7)) = w26 at n0_ n1_ n2_ ⊢
          have BK40 := n0_; have BK197 := n1_; have HB := n2_; clear n0_ n1_ n2_
          have n0_ := yD (yO BK40.out)
          have n1_ := yD (yO BK197.out)
          have n2_ := yD (yP HB.out)
          clear BK40 BK197 HB; have BK40 := n0_; have BK197 := n1_; have HB := n2_; clear n0_ n1_ n2_
          refine start_ (n := 38) (S := fun w' => w'.cell? ⟨g0_0, 0, none⟩ = some (.slice A0_0 l0_0.length c0_0) ∧ w'.cell? ⟨g0_0, 1, none⟩ = some (.slice A0_1 l0_1.length c0_1) ∧ w'.cell? ⟨g0_0, 2, none⟩ = some (.int .i64 a0_2) ∧ w'.cell? ⟨g0_0, 3, none⟩ = some (.bool a0_3) ∧ w'.cell? ⟨g0_0, 4, none⟩ = some (.int .i64 a0_4) ∧ w'.cell? ⟨g0_0, 5, none⟩ = some (.int .i64 a0_5) ∧ w'.cell? ⟨g0_0, 6, none⟩ = some (.int .i64 a0_6) ∧ w'.cell? ⟨g0_0, 7, none⟩ = some (.int .i64 a0_7) ∧ w'.cell? ⟨g0_0, 8, none⟩ = some (.int .i64 a0_8) ∧ w'.cell? ⟨g0_0, 9, none⟩ = some (.int .i64 a0_9) ∧ w'.cell? ⟨g0_0, 10, none⟩ = some (.slice A0_10 l0_10.length c0_10) ∧ w'.cell? ⟨g0_0, 11, none⟩ = some (.slice A0_11 l0_11.length c0_11) ∧ w'.cell? ⟨gb197, 0, none⟩ = some (.int .i64 a0_4) ∧ w'.cell? ⟨gb197, 1, none⟩ = some (.int .i64 a0_5) ∧ w'.cell? ⟨gb197, 2, none⟩ = some (.int .i64 a0_6) ∧ w'.cell? ⟨gb197, 3, none⟩ = some (.int .i64 a0_7)) (ds := []) (bz 38 0) (by kernel_rfl) rfl rfl ⟨(yG BK40.out 0).trans rfl, (yG BK40.out 1).trans rfl, (yG BK40.out 2).trans rfl, (yG BK40.out 3).trans rfl, (yG BK40.out 4).trans rfl, (yG BK40.out 5).trans rfl, (yG BK40.out 6).trans rfl, (yG BK40.out 7).trans rfl, (yG BK40.out 8).trans rfl, (yG BK40.out 9).trans rfl, (yG BK40.out 10).trans rfl, (yG BK40.out 11).trans rfl, (yG BK197.out 0).trans rfl, (yG BK197.out 1).trans rfl, (yG BK197.out 2).trans rfl, (yG BK197.out 3).trans rfl⟩ (fun hHeld => ?_); refine with_tabW spec_l12Ok_c48.tab2 spec_l12Ok_c48.bits2 (fun HT_ HW_ => ?_)
          generalize w26.drew = w27 at BK40 BK197 HB hHeld ⊢
          refine qA 0 8 (bz 38 1) HT_ ?_
          refine qA 1 9 (bz 38 3) HT_ ?_
          refine qA 2 10 (bz 38 7) HT_ ?_
          refine one_ (i := 3) (N := some 11) (bz 38 15) rfl rfl (one_of HT_.out (by kernel_rfl)) (by decide) (fun K hK => ?_)
          refine goes_ Try.func21 (by kernel_rfl) rfl #[.pointer (some ⟨g0_0, 0, none⟩)] (by rfl) rfl rfl (by (try simp only [zK, zL, zM]); first | done | rfl | (simp only [zN, zO]; rfl)) ?_
          with_reducible refine (spec_l09Ok_c48.calls k g0_0 A0_0 c0_0 l0_0 A0_1 c0_1 l0_1 a0_2 a0_3 a0_4 a0_5 a0_6 a0_7 a0_8 a0_9 A0_10 c0_10 l0_10 A0_11 c0_11 l0_11 true _ ?side1 ?side2 ?side3 ?side4 ?side5 ?side6 ?side7 ?side8 ?side9 A7.out).mono ?_
          (case side1 => repeat (first | exact (yY HR0_0.out HB.out) | (with_reducible first | refine yV ?_ _ | refine yW ?_ _ | refine yX ?_)))
          (case side2 => exact HC0_0.out)
          (case side3 => repeat (first | exact (yY HR0_1.out HB.out) | (with_reducible first | refine yV ?_ _ | refine yW ?_ _ | refine yX ?_)))
          (case side4 => exact HC0_1.out)
          (case side5 => repeat (first | exact (yY HR0_10.out HB.out) | (with_reducible first | refine yV ?_ _ | refine yW ?_ _ | refine yX ?_)))
          (case side6 => exact HC0_10.out)
          (case side7 => repeat (first | exact (yY HR0_11.out HB.out) | (with_reducible first | refine yV ?_ _ | refine yW ?_ _ | refine yX ?_)))
          (case side8 => exact HC0_11.out)
          (case side9 => (with_reducible repeat (first | refine yM ?_ _ | refine yO ?_ | refine yN ?_ _)); exact BK40.out)
          rintro e w28 ⟨rfl, hb⟩
          refine ⟨_, rfl, ?_⟩
          have n0_ := yD (zB (g := g0_0) (o := .cells #[.slice A0_0 l0_0.length c0_0, .slice A0_1 l0_1.length c0_1, .int .i64 a0_2, .bool a0_3, .int .i64 a0_4, .int .i64 a0_5, .int .i64 a0_6, .int .i64 a0_7, .int .i64 a0_8, .int .i64 a0_9, .slice A0_10 l0_10.length c0_10, .slice A0_11 l0_11.length c0_11] 48 (0, 0)) (by (with_reducible repeat (first | refine yM ?_ _ | refine yO ?_ | refine yN ?_ _)); exact BK40.out) hb)
          have n1_ := yD (zB (g := gb197) (o := .cells #[.int .i64 a0_4, .int .i64 a0_5, .int .i64 a0_6, .int .i64 a0_7] 45 (0, 0)) (by (with_reducible repeat (first | refine yM ?_ _ | refine yO ?_ | refine yN ?_ _)); exact BK197.out) hb)
          have n2_ := yD (zC (by repeat (first | (with_reducible first | exact HB.out | apply yQ | apply yL | apply yP | refine yE ?_ GE40.out | refine yE ?_ GE197.out) | exact HB.out)) hb)
          clear BK40 BK197 HB; have BK40 := n0_; have BK197 := n1_; have HB := n2_; clear n0_ n1_ n2_; (try clear hb); (try clear hb2); (try clear hk); (try clear hi)
          refine hK.out _ _ ⟨(yG BK40.out 0).trans rfl, (yG BK40.out 1).trans rfl, (yG BK40.out 2).trans rfl, (yG BK40.out 3).trans rfl, (yG BK40.out 4).trans rfl, (yG BK40.out 5).trans rfl, (yG BK40.out 6).trans rfl, (yG BK40.out 7).trans rfl, (yG BK40.out 8).trans rfl, (yG BK40.out 9).trans rfl, (yG BK40.out 10).trans rfl, (yG BK40.out 11).trans rfl, (yG BK197.out 0).trans rfl, (yG BK197.out 1).trans rfl, (yG BK197.out 2).trans rfl, (yG BK197.out 3).trans rfl⟩ (fun hHeld => ?_)
          clear hK K
          refine norm_ (a' := ?_) ?_ ?_
          rotate_left
          · show Act.put _ (some 11) _ = _
            simp only [Act.put, zH, zI, zJ, i64_w, i32_w]
            rfl
          refine qA 4 12 (bz 38 31) HT_ ?_
          refine qA 5 13 (bz 38 63) HT_ ?_
          refine qA 6 14 (bz 38 127) HT_ ?_
          refine qA 7 15 (bz 38 255) HT_ ?_
          refine qA 8 16 (bz 38 511) HT_ ?_
          refine qA 9 17 (bz 38 1023) HT_ ?_
          refine qC 10 18 (bz 38 2047) HT_ HW_ hHeld ?_ (hy := by rintro w' ⟨s0, s1, s2, s3, s4, s5, s6, s7, s8, s9, s10, s11, s12, s13, s14, s15⟩; go_simp; with_reducible rfl)
          refine qA 11 19 (bz 38 4095) HT_ ?_
          refine qA 12 20 (bz 38 8191) HT_ ?_
          refine qA 13 21 (bz 38 16383) HT_ ?_
          refine qB 14 22 (bz 38 32767) HT_ ?_
          refine qB 15 23 (bz 38 65535) HT_ ?_
          refine qB 16 24 (bz 38 131071) HT_ ?_
          refine qB 17 25 (bz 38 262143) HT_ ?_
          refine qB 18 26 (bz 38 524287) HT_ ?_
          refine qB 19 27 (bz 38 1048575) HT_ ?_
          refine qA 20 28 (bz 38 2097151) HT_ ?_
          refine qA 21 29 (bz 38 4194303) HT_ ?_
          refine qA 22 30 (bz 38 8388607) HT_ ?_
          refine qC 23 31 (bz 38 16777215) HT_ HW_ hHeld ?_ (hy := by rintro w' ⟨s0, s1, s2, s3, s4, s5, s6, s7, s8, s9, s10, s11, s12, s13, s14, s15⟩; go_simp; with_reducible rfl)
          refine one_ (i := 24) (N := some 32) (bz 38 33554431) rfl rfl (one_of HT_.out (by kernel_rfl)) (by decide) (fun K hK => ?_)
          refine goes_ Try.func57 (by kernel_rfl) rfl #[.agg #[.int .i64 a0_4, .int .i64 a0_5, .int .i64 a0_6, .int .i64 a0_7]] (by rfl) rfl rfl (by (try simp only [zK, zL, zM]); first | done | rfl | (simp only [zN, zO]; rfl)) ?_
          with_reducible refine (spec_ValidSuper.calls a0_4 a0_5 a0_6 a0_7 true _ A24.out).mono ?_
          rintro e w29 ⟨rfl, hb⟩
          refine ⟨_, rfl, ?_⟩
          have n0_ := yD (zB (g := g0_0) (o := .cells #[.slice A0_0 l0_0.length c0_0, .slice A0_1 l0_1.length c0_1, .int .i64 a0_2, .bool a0_3, .int .i64 a0_4, .int .i64 a0_5, .int .i64 a0_6, .int .i64 a0_7, .int .i64 a0_8, .int .i64 a0_9, .slice A0_10 l0_10.length c0_10, .slice A0_11 l0_11.length c0_11] 48 (0, 0)) (by (with_reducible repeat (first | refine yM ?_ _ | refine yO ?_ | refine yN ?_ _)); exact BK40.out) hb)
          have n1_ := yD (zB (g := gb197) (o := .cells #[.int .i64 a0_4, .int .i64 a0_5, .int .i64 a0_6, .int .i64 a0_7] 45 (0, 0)) (by (with_reducible repeat (first | refine yM ?_ _ | refine yO ?_ | refine yN ?_ _)); exact BK197.out) hb)
          have n2_ := yD (zC (by repeat (first | (with_reducible first | exact HB.out | apply yQ | apply yL | apply yP | refine yE ?_ GE40.out | refine yE ?_ GE197.out) | exact HB.out)) hb)
          clear BK40 BK197 HB; have BK40 := n0_; have BK197 := n1_; have HB := n2_; clear n0_ n1_ n2_; (try clear hb); (try clear hb2); (try clear hk); (try clear hi)
          refine hK.out _ _ ⟨(yG BK40.out 0).trans rfl, (yG BK40.out 1).trans rfl, (yG BK40.out 2).trans rfl, (yG BK40.out 3).trans rfl, (yG BK40.out 4).trans rfl, (yG BK40.out 5).trans rfl, (yG BK40.out 6).trans rfl, (yG BK40.out 7).trans rfl, (yG BK40.out 8).trans rfl, (yG BK40.out 9).trans rfl, (yG BK40.out 10).trans rfl, (yG BK40.out 11).trans rfl, (yG BK197.out 0).trans rfl, (yG BK197.out 1).trans rfl, (yG BK197.out 2).trans rfl, (yG BK197.out 3).trans rfl⟩ (fun hHeld => ?_)
          clear hK K
          refine norm_ (a' := ?_) ?_ ?_
          rotate_left
          · show Act.put _ (some 32) _ = _
            simp only [Act.put, zH, zI, zJ, i64_w, i32_w]
            rfl
          refine qA 25 33 (bz 38 67108863) HT_ ?_
          refine qA 26 34 (bz 38 134217727) HT_ ?_
          refine qA 27 35 (bz 38 268435455) HT_ ?_
          refine qA 28 36 (bz 38 536870911) HT_ ?_
          refine qA 30 38 (bz 38 1610612735) HT_ ?_
          refine qA 31 39 (bz 38 3758096383) HT_ ?_
          refine qA 32 40 (bz 38 8053063679) HT_ ?_
          refine qA 33 41 (bz 38 16642998271) HT_ ?_
          refine qC 29 37 (bz 38 17179869183) HT_ HW_ hHeld ?_ (hy := by rintro w' ⟨s0, s1, s2, s3, s4, s5, s6, s7, s8, s9, s10, s11, s12, s13, s14, s15⟩; go_simp; with_reducible rfl)
          refine qC 34 42 (bz 38 34359738367) HT_ HW_ hHeld ?_ (hy := by rintro w' ⟨s0, s1, s2, s3, s4, s5, s6, s7, s8, s9, s10, s11, s12, s13, s14, s15⟩; go_simp; with_reducible rfl)
          refine qA 35 43 (bz 38 68719476735) HT_ ?_
          refine qA 36 44 (bz 38 137438953471) HT_ ?_
          refine qA 37 45 (bz 38 274877906943) HT_ ?_
          refine done_ (done_of HT_.out (by kernel_rfl)) ?_
          try go_wp2
          go_meet
          case rel => exact ⟨_, ((a0_4 != (l0_0.length : Int))), (by first | rfl | (simp; done) | (simp [*]; done)), H', ⟨by first | omega | exact Nat.le_refl _⟩, ⟨by (with_reducible repeat (first | refine yM ?_ _ | refine yO ?_ | refine yN ?_ _)); exact BK40.out⟩, ⟨by (with_reducible repeat (first | refine yM ?_ _ | refine yO ?_ | refine yN ?_ _)); exact BK197.out⟩, ⟨by repeat (first | (with_reducible first | exact HB.out | apply yQ | apply yL | apply yP | refine yE ?_ GE40.out | refine yE ?_ GE197.out) | exact HB.out)⟩⟩
        · replace c25 := Bool.eq_false_iff.mpr c25
          subst c25
          have H1 : (spec_l12Ok_c48.j0 k true l0_0 l0_1 a0_2 a0_3 a0_4 a0_5 a0_6 a0_7 a0_8 a0_9 l0_10 l0_11 a0_4 a0_5 a0_6 a0_7) = some r := by rw [if_neg (show ¬ (false = true) by decide)] at H; exact H
          clear H; have H := H1; clear H1
          have H' := yD H
          clear H
          try go_wp2
          have n0_ : Aside0 (((((w4.setCell ⟨gb197, 0, none⟩ (.int .i64 a0_4)).setCell ⟨gb197, 1, none⟩ (.int .i64 a0_5)).setCell ⟨gb197, 2, none⟩ (.int .i64 a0_6)).setCell ⟨gb197, 3, none⟩ (.int .i64 a0_7)).heap[g0_0]? = some (.cells #[.slice A0_0 l0_0.length c0_0, .slice A0_1 l0_1.length c0_1, .int .i64 a0_2, .bool a0_3, .int .i64 a0_4, .int .i64 a0_5, .int .i64 a0_6, .int .i64 a0_7, .int .i64 a0_8, .int .i64 a0_9, .slice A0_10 l0_10.length c0_10, .slice A0_11 l0_11.length c0_11] 48 (0, 0))) := ⟨by (with_reducible repeat (first | refine yM ?_ _ | refine yO ?_ | refine yN ?_ _)); refine blk_far ?_ NB40_197.out _; (with_reducible repeat (first | refine yM ?_ _ | refine yO ?_ | refine yN ?_ _)); refine blk_far ?_ NB40_197.out _; (with_reducible repeat (first | refine yM ?_ _ | refine yO ?_ | refine yN ?_ _)); refine blk_far ?_ NB40_197.out _; (with_reducible repeat (first | refine yM ?_ _ | refine yO ?_ | refine yN ?_ _)); refine blk_far ?_ NB40_197.out _; (with_reducible repeat (first | refine yM ?_ _ | refine yO ?_ | refine yN ?_ _)); exact BK40.out⟩
          have n1_ : Aside0 (((((w4.setCell ⟨gb197, 0, none⟩ (.int .i64 a0_4)).setCell ⟨gb197, 1, none⟩ (.int .i64 a0_5)).setCell ⟨gb197, 2, none⟩ (.int .i64 a0_6)).setCell ⟨gb197, 3, none⟩ (.int .i64 a0_7)).heap[gb197]? = some (.cells #[.int .i64 a0_4, .int .i64 a0_5, .int .i64 a0_6, .int .i64 a0_7] 45 (0, 0))) := ⟨by (with_reducible repeat (first | refine yM ?_ _ | refine yO ?_ | refine yN ?_ _)); refine blk_put (cs := #[.int .i64 a0_4, .int .i64 a0_5, .int .i64 a0_6, .int .i64 0]) ?_ 3 _ rfl; (with_reducible repeat (first | refine yM ?_ _ | refine yO ?_ | refine yN ?_ _)); refine blk_put (cs := #[.int .i64 a0_4, .int .i64 a0_5, .int .i64 0, .int .i64 0]) ?_ 2 _ rfl; (with_reducible repeat (first | refine yM ?_ _ | refine yO ?_ | refine yN ?_ _)); refine blk_put (cs := #[.int .i64 a0_4, .int .i64 0, .int .i64 0, .int .i64 0]) ?_ 1 _ rfl; (with_reducible repeat (first | refine yM ?_ _ | refine yO ?_ | refine yN ?_ _)); refine blk_put (cs := #[.int .i64 0, .int .i64 0, .int .i64 0, .int .i64 0]) ?_ 0 _ rfl; (with_reducible repeat (first | refine yM ?_ _ | refine yO ?_ | refine yN ?_ _)); exact BK197.out⟩
          have n2_ : Aside0 (Below w.heap.size w ((((w4.setCell ⟨gb197, 0, none⟩ (.int .i64 a0_4)).setCell ⟨gb197, 1, none⟩ (.int .i64 a0_5)).setCell ⟨gb197, 2, none⟩ (.int .i64 a0_6)).setCell ⟨gb197, 3, none⟩ (.int .i64 a0_7))) := ⟨by repeat (first | (with_reducible first | exact HB.out | apply yQ | apply yL | apply yP | refine yE ?_ GE40.out | refine yE ?_ GE197.out) | exact HB.out)⟩
          (try clear BK40); (try clear BK197); (try clear HB)
          generalize ((((w4.setCell ⟨gb197, 0, none⟩ (.int .i64 a0_4)).setCell ⟨gb197, 1, none⟩ (.int .i64 a0_5)).setCell ⟨gb197, 2, none⟩ (.int .i64 a0_6)).setCell ⟨gb197, 3, none⟩ (.int .i64 a0_7)) = w30 at n0_ n1_ n2_ ⊢
          have BK40 := n0_; have BK197 := n1_; have HB := n2_; clear n0_ n1_ n2_
          have n0_ := yD (yO BK40.out)
          have n1_ := yD (yO BK197.out)
          have n2_ := yD (yP HB.out)
          clear BK40 BK197 HB; have BK40 := n0_; have BK197 := n1_; have HB := n2_; clear n0_ n1_ n2_
          refine start_ (n := 38) (S := fun w' => w'.cell? ⟨g0_0, 0, none⟩ = some (.slice A0_0 l0_0.length c0_0) ∧ w'.cell? ⟨g0_0, 1, none⟩ = some (.slice A0_1 l0_1.length c0_1) ∧ w'.cell? ⟨g0_0, 2, none⟩ = some (.int .i64 a0_2) ∧ w'.cell? ⟨g0_0, 3, none⟩ = some (.bool a0_3) ∧ w'.cell? ⟨g0_0, 4, none⟩ = some (.int .i64 a0_4) ∧ w'.cell? ⟨g0_0, 5, none⟩ = some (.int .i64 a0_5) ∧ w'.cell? ⟨g0_0, 6, none⟩ = some (.int .i64 a0_6) ∧ w'.cell? ⟨g0_0, 7, none⟩ = some (.int .i64 a0_7) ∧ w'.cell? ⟨g0_0, 8, none⟩ = some (.int .i64 a0_8) ∧ w'.cell? ⟨g0_0, 9, none⟩ = some (.int .i64 a0_9) ∧ w'.cell? ⟨g0_0, 10, none⟩ = some (.slice A0_10 l0_10.length c0_10) ∧ w'.cell? ⟨g0_0, 11, none⟩ = some (.slice A0_11 l0_11.length c0_11) ∧ w'.cell? ⟨gb197, 0, none⟩ = some (.int .i64 a0_4) ∧ w'.cell? ⟨gb197, 1, none⟩ = some (.int .i64 a0_5) ∧ w'.cell? ⟨gb197, 2, none⟩ = some (.int .i64 a0_6) ∧ w'.cell? ⟨gb197, 3, none⟩ = some (.int .i64 a0_7)) (ds := []) (bz 38 0) (by kernel_rfl) rfl rfl ⟨(yG BK40.out 0).trans rfl, (yG BK40.out 1).trans rfl, (yG BK40.out 2).trans rfl, (yG BK40.out 3).trans rfl, (yG BK40.out 4).trans rfl, (yG BK40.out 5).trans rfl, (yG BK40.out 6).trans rfl, (yG BK40.out 7).trans rfl, (yG BK40.out 8).trans rfl, (yG BK40.out 9).trans rfl, (yG BK40.out 10).trans rfl, (yG BK40.out 11).trans rfl, (yG BK197.out 0).trans rfl, (yG BK197.out 1).trans rfl, (yG BK197.out 2).trans rfl, (yG BK197.out 3).trans rfl⟩ (fun hHeld => ?_); refine with_tabW spec_l12Ok_c48.tab2 spec_l12Ok_c48.bits2 (fun HT_ HW_ => ?_)
          generalize w30.drew = w31 at BK40 BK197 HB hHeld ⊢
          refine qA 0 8 (bz 38 1) HT_ ?_
          refine qA 1 9 (bz 38 3) HT_ ?_
          refine qA 2 10 (bz 38 7) HT_ ?_
          refine one_ (i := 3) (N := some 11) (bz 38 15) rfl rfl (one_of HT_.out (by kernel_rfl)) (by decide) (fun K hK => ?_)
          refine goes_ Try.func21 (by kernel_rfl) rfl #[.pointer (some ⟨g0_0, 0, none⟩)] (by rfl) rfl rfl (by (try simp only [zK, zL, zM]); first | done | rfl | (simp only [zN, zO]; rfl)) ?_
          with_reducible refine (spec_l09Ok_c48.calls k g0_0 A0_0 c0_0 l0_0 A0_1 c0_1 l0_1 a0_2 a0_3 a0_4 a0_5 a0_6 a0_7 a0_8 a0_9 A0_10 c0_10 l0_10 A0_11 c0_11 l0_11 true _ ?side1 ?side2 ?side3 ?side4 ?side5 ?side6 ?side7 ?side8 ?side9 A7.out).mono ?_
          (case side1 => repeat (first | exact (yY HR0_0.out HB.out) | (with_reducible first | refine yV ?_ _ | refine yW ?_ _ | refine yX ?_)))
          (case side2 => exact HC0_0.out)
          (case side3 => repeat (first | exact (yY HR0_1.out HB.out) | (with_reducible first | refine yV ?_ _ | refine yW ?_ _ | refine yX ?_)))
          (case side4 => exact HC0_1.out)
          (case side5 => repeat (first | exact (yY HR0_10.out HB.out) | (with_reducible first | refine yV ?_ _ | refine yW ?_ _ | refine yX ?_)))
          (case side6 => exact HC0_10.out)
          (case side7 => repeat (first | exact (yY HR0_11.out HB.out) | (with_reducible first | refine yV ?_ _ | refine yW ?_ _ | refine yX ?_)))
          (case side8 => exact HC0_11.out)
          (case side9 => (with_reducible repeat (first | refine yM ?_ _ | refine yO ?_ | refine yN ?_ _)); exact BK40.out)
          rintro e w32 ⟨rfl, hb⟩
          refine ⟨_, rfl, ?_⟩
          have n0_ := yD (zB (g := g0_0) (o := .cells #[.slice A0_0 l0_0.length c0_0, .slice A0_1 l0_1.length c0_1, .int .i64 a0_2, .bool a0_3, .int .i64 a0_4, .int .i64 a0_5, .int .i64 a0_6, .int .i64 a0_7, .int .i64 a0_8, .int .i64 a0_9, .slice A0_10 l0_10.length c0_10, .slice A0_11 l0_11.length c0_11] 48 (0, 0)) (by (with_reducible repeat (first | refine yM ?_ _ | refine yO ?_ | refine yN ?_ _)); exact BK40.out) hb)
          have n1_ := yD (zB (g := gb197) (o := .cells #[.int .i64 a0_4, .int .i64 a0_5, .int .i64 a0_6, .int .i64 a0_7] 45 (0, 0)) (by (with_reducible repeat (first | refine yM ?_ _ | refine yO ?_ | refine yN ?_ _)); exact BK197.out) hb)
          have n2_ := yD (zC (by repeat (first | (with_reducible first | exact HB.out | apply yQ | apply yL | apply yP | refine yE ?_ GE40.out | refine yE ?_ GE197.out) | exact HB.out)) hb)
          clear BK40 BK197 HB; have BK40 := n0_; have BK197 := n1_; have HB := n2_; clear n0_ n1_ n2_; (try clear hb); (try clear hb2); (try clear hk); (try clear hi)
          refine hK.out _ _ ⟨(yG BK40.out 0).trans rfl, (yG BK40.out 1).trans rfl, (yG BK40.out 2).trans rfl, (yG BK40.out 3).trans rfl, (yG BK40.out 4).trans rfl, (yG BK40.out 5).trans rfl, (yG BK40.out 6).trans rfl, (yG BK40.out 7).trans rfl, (yG BK40.out 8).trans rfl, (yG BK40.out 9).trans rfl, (yG BK40.out 10).trans rfl, (yG BK40.out 11).trans rfl, (yG BK197.out 0).trans rfl, (yG BK197.out 1).trans rfl, (yG BK197.out 2).trans rfl, (yG BK197.out 3).trans rfl⟩ (fun hHeld => ?_)
          clear hK K
          refine norm_ (a' := ?_) ?_ ?_
          rotate_left
          · show Act.put _ (some 11) _ = _
            simp only [Act.put, zH, zI, zJ, i64_w, i32_w]
            rfl
          refine qA 4 12 (bz 38 31) HT_ ?_
          refine qA 5 13 (bz 38 63) HT_ ?_
          refine qA 6 14 (bz 38 127) HT_ ?_
          refine qA 7 15 (bz 38 255) HT_ ?_
          refine qA 8 16 (bz 38 511) HT_ ?_
          refine qA 9 17 (bz 38 1023) HT_ ?_
          refine qC 10 18 (bz 38 2047) HT_ HW_ hHeld ?_ (hy := by rintro w' ⟨s0, s1, s2, s3, s4, s5, s6, s7, s8, s9, s10, s11, s12, s13, s14, s15⟩; go_simp; with_reducible rfl)
          refine qA 11 19 (bz 38 4095) HT_ ?_
          refine qA 12 20 (bz 38 8191) HT_ ?_
          refine qA 13 21 (bz 38 16383) HT_ ?_
          refine qB 14 22 (bz 38 32767) HT_ ?_
          refine qB 15 23 (bz 38 65535) HT_ ?_
          refine qB 16 24 (bz 38 131071) HT_ ?_
          refine qB 17 25 (bz 38 262143) HT_ ?_
          refine qB 18 26 (bz 38 524287) HT_ ?_
          refine qB 19 27 (bz 38 1048575) HT_ ?_
          refine qA 20 28 (bz 38 2097151) HT_ ?_
          refine qA 21 29 (bz 38 4194303) HT_ ?_
          refine qA 22 30 (bz 38 8388607) HT_ ?_
          refine qC 23 31 (bz 38 16777215) HT_ HW_ hHeld ?_ (hy := by rintro w' ⟨s0, s1, s2, s3, s4, s5, s6, s7, s8, s9, s10, s11, s12, s13, s14, s15⟩; go_simp; with_reducible rfl)
          refine one_ (i := 24) (N := some 32) (bz 38 33554431) rfl rfl (one_of HT_.out (by kernel_rfl)) (by decide) (fun K hK => ?_)
          refine goes_ Try.func57 (by kernel_rfl) rfl #[.agg #[.int .i64 a0_4, .int .i64 a0_5, .int .i64 a0_6, .int .i64 a0_7]] (by rfl) rfl rfl (by (try simp only [zK, zL, zM]); first | done | rfl | (simp only [zN, zO]; rfl)) ?_
          with_reducible refine (spec_ValidSuper.calls a0_4 a0_5 a0_6 a0_7 false _ A24.out).mono ?_
          rintro e w33 ⟨rfl, hb⟩
          refine ⟨_, rfl, ?_⟩
          have n0_ := yD (zB (g := g0_0) (o := .cells #[.slice A0_0 l0_0.length c0_0, .slice A0_1 l0_1.length c0_1, .int .i64 a0_2, .bool a0_3, .int .i64 a0_4, .int .i64 a0_5, .int .i64 a0_6, .int .i64 a0_7, .int .i64 a0_8, .int .i64 a0_9, .slice A0_10 l0_10.length c0_10, .slice A0_11 l0_11.length c0_11] 48 (0, 0)) (by (with_reducible repeat (first | refine yM ?_ _ | refine yO ?_ | refine yN ?_ _)); exact BK40.out) hb)
          have n1_ := yD (zB (g := gb197) (o := .cells #[.int .i64 a0_4, .int .i64 a0_5, .int .i64 a0_6, .int .i64 a0_7] 45 (0, 0)) (by (with_reducible repeat (first | refine yM ?_ _ | refine yO ?_ | refine yN ?_ _)); exact BK197.out) hb)
          have n2_ := yD (zC (by repeat (first | (with_reducible first | exact HB.out | apply yQ | apply yL | apply yP | refine yE ?_ GE40.out | refine yE ?_ GE197.out) | exact HB.out)) hb)
          clear BK40 BK197 HB; have BK40 := n0_; have BK197 := n1_; have HB := n2_; clear n0_ n1_ n2_; (try clear hb); (try clear hb2); (try clear hk); (try clear hi)
          refine hK.out _ _ ⟨(yG BK40.out 0).trans rfl, (yG BK40.out 1).trans rfl, (yG BK40.out 2).trans rfl, (yG BK40.out 3).trans rfl, (yG BK40.out 4).trans rfl, (yG BK40.out 5).trans rfl, (yG BK40.out 6).trans rfl, (yG BK40.out 7).trans rfl, (yG BK40.out 8).trans rfl, (yG BK40.out 9).trans rfl, (yG BK40.out 10).trans rfl, (yG BK40.out 11).trans rfl, (yG BK197.out 0).trans rfl, (yG BK197.out 1).trans rfl, (yG BK197.out 2).trans rfl, (yG BK197.out 3).trans rfl⟩ (fun hHeld => ?_)
          clear hK K
          refine norm_ (a' := ?_) ?_ ?_
          rotate_left
          · show Act.put _ (some 32) _ = _
            simp only [Act.put, zH, zI, zJ, i64_w, i32_w]
            rfl
          refine qA 25 33 (bz 38 67108863) HT_ ?_
          refine qA 26 34 (bz 38 134217727) HT_ ?_
          refine qA 27 35 (bz 38 268435455) HT_ ?_
          refine qB 28 36 (bz 38 536870911) HT_ ?_
          refine qB 29 37 (bz 38 1073741823) HT_ ?_
          refine qB 30 38 (bz 38 2147483647) HT_ ?_
          refine qB 31 39 (bz 38 4294967295) HT_ ?_
          refine qB 32 40 (bz 38 8589934591) HT_ ?_
          refine qB 33 41 (bz 38 17179869183) HT_ ?_
          refine qB 34 42 (bz 38 34359738367) HT_ ?_
          refine qB 35 43 (bz 38 68719476735) HT_ ?_
          refine qB 36 44 (bz 38 137438953471) HT_ ?_
          refine qA 37 45 (bz 38 274877906943) HT_ ?_
          refine done_ (done_of HT_.out (by kernel_rfl)) ?_
          try go_wp2
          go_meet
          case rel => exact ⟨_, (true), (by first | rfl | (simp; done) | (simp [*]; done)), H', ⟨by first | omega | exact Nat.le_refl _⟩, ⟨by (with_reducible repeat (first | refine yM ?_ _ | refine yO ?_ | refine yN ?_ _)); exact BK40.out⟩, ⟨by (with_reducible repeat (first | refine yM ?_ _ | refine yO ?_ | refine yN ?_ _)); exact BK197.out⟩, ⟨by repeat (first | (with_reducible first | exact HB.out | apply yQ | apply yL | apply yP | refine yE ?_ GE40.out | refine yE ?_ GE197.out) | exact HB.out)⟩⟩
    · replace c8 := Bool.eq_false_iff.mpr c8
      subst c8
      have H1 : (spec_l12Ok_c48.j0 k true l0_0 l0_1 a0_2 a0_3 a0_4 a0_5 a0_6 a0_7 a0_8 a0_9 l0_10 l0_11 a0_4 a0_5 a0_6 a0_7) = some r := by rw [if_neg (show ¬ (false = true) by decide)] at H; exact H
      clear H; have H := H1; clear H1
      have H' := yD H
      clear H
      try go_wp2
      have n0_ : Aside0 (((((w4.setCell ⟨gb197, 0, none⟩ (.int .i64 a0_4)).setCell ⟨gb197, 1, none⟩ (.int .i64 a0_5)).setCell ⟨gb197, 2, none⟩ (.int .i64 a0_6)).setCell ⟨gb197, 3, none⟩ (.int .i64 a0_7)).heap[g0_0]? = some (.cells #[.slice A0_0 l0_0.length c0_0, .slice A0_1 l0_1.length c0_1, .int .i64 a0_2, .bool a0_3, .int .i64 a0_4, .int .i64 a0_5, .int .i64 a0_6, .int .i64 a0_7, .int .i64 a0_8, .int .i64 a0_9, .slice A0_10 l0_10.length c0_10, .slice A0_11 l0_11.length c0_11] 48 (0, 0))) := ⟨by (with_reducible repeat (first | refine yM ?_ _ | refine yO ?_ | refine yN ?_ _)); refine blk_far ?_ NB40_197.out _; (with_reducible repeat (first | refine yM ?_ _ | refine yO ?_ | refine yN ?_ _)); refine blk_far ?_ NB40_197.out _; (with_reducible repeat (first | refine yM ?_ _ | refine yO ?_ | refine yN ?_ _)); refine blk_far ?_ NB40_197.out _; (with_reducible repeat (first | refine yM ?_ _ | refine yO ?_ | refine yN ?_ _)); refine blk_far ?_ NB40_197.out _; (with_reducible repeat (first | refine yM ?_ _ | refine yO ?_ | refine yN ?_ _)); exact BK40.out⟩
      have n1_ : Aside0 (((((w4.setCell ⟨gb197, 0, none⟩ (.int .i64 a0_4)).setCell ⟨gb197, 1, none⟩ (.int .i64 a0_5)).setCell ⟨gb197, 2, none⟩ (.int .i64 a0_6)).setCell ⟨gb197, 3, none⟩ (.int .i64 a0_7)).heap[gb197]? = some (.cells #[.int .i64 a0_4, .int .i64 a0_5, .int .i64 a0_6, .int .i64 a0_7] 45 (0, 0))) := ⟨by (with_reducible repeat (first | refine yM ?_ _ | refine yO ?_ | refine yN ?_ _)); refine blk_put (cs := #[.int .i64 a0_4, .int .i64 a0_5, .int .i64 a0_6, .int .i64 0]) ?_ 3 _ rfl; (with_reducible repeat (first | refine yM ?_ _ | refine yO ?_ | refine yN ?_ _)); refine blk_put (cs := #[.int .i64 a0_4, .int .i64 a0_5, .int .i64 0, .int .i64 0]) ?_ 2 _ rfl; (with_reducible repeat (first | refine yM ?_ _ | refine yO ?_ | refine yN ?_ _)); refine blk_put (cs := #[.int .i64 a0_4, .int .i64 0, .int .i64 0, .int .i64 0]) ?_ 1 _ rfl; (with_reducible repeat (first | refine yM ?_ _ | refine yO ?_ | refine yN ?_ _)); refine blk_put (cs := #[.int .i64 0, .int .i64 0, .int .i64 0, .int .i64 0]) ?_ 0 _ rfl; (with_reducible repeat (first | refine yM ?_ _ | refine yO ?_ | refine yN ?_ _)); exact BK197.out⟩
      have n2_ : Aside0 (Below w.heap.size w ((((w4.setCell ⟨gb197, 0, none⟩ (.int .i64 a0_4)).setCell ⟨gb197, 1, none⟩ (.int .i64 a0_5)).setCell ⟨gb197, 2, none⟩ (.int .i64 a0_6)).setCell ⟨gb197, 3, none⟩ (.int .i64 a0_7))) := ⟨by repeat (first | (with_reducible first | exact HB.out | apply yQ | apply yL | apply yP | refine yE ?_ GE40.out | refine yE ?_ GE197.out) | exact HB.out)⟩
      (try clear BK40); (try clear BK197); (try clear HB)
      generalize ((((w4.setCell ⟨gb197, 0, none⟩ (.int .i64 a0_4)).setCell ⟨gb197, 1, none⟩ (.int .i64 a0_5)).setCell ⟨gb197, 2, none⟩ (.int .i64 a0_6)).setCell ⟨gb197, 3, none⟩ (.int .i64 a0_7)) = w34 at n0_ n1_ n2_ ⊢
      have BK40 := n0_; have BK197 := n1_; have HB := n2_; clear n0_ n1_ n2_
      have n0_ := yD (yO BK40.out)
      have n1_ := yD (yO BK197.out)
      have n2_ := yD (yP HB.out)
      clear BK40 BK197 HB; have BK40 := n0_; have BK197 := n1_; have HB := n2_; clear n0_ n1_ n2_
      refine start_ (n := 38) (S := fun w' => True) (ds := []) (bz 38 0) (by kernel_rfl) rfl rfl trivial (fun hHeld => ?_); refine with_tabW spec_l12Ok_c48.tab2 spec_l12Ok_c48.bits2 (fun HT_ HW_ => ?_)
      generalize w34.drew = w35 at BK40 BK197 HB hHeld ⊢
      refine qA 0 8 (bz 38 1) HT_ ?_
      refine qA 1 9 (bz 38 3) HT_ ?_
      refine qA 2 10 (bz 38 7) HT_ ?_
      refine one_ (i := 3) (N := some 11) (bz 38 15) rfl rfl (one_of HT_.out (by kernel_rfl)) (by decide) (fun K hK => ?_)
      refine goes_ Try.func21 (by kernel_rfl) rfl #[.pointer (some ⟨g0_0, 0, none⟩)] (by rfl) rfl rfl (by (try simp only [zK, zL, zM]); first | done | rfl | (simp only [zN, zO]; rfl)) ?_
      with_reducible refine (spec_l09Ok_c48.calls k g0_0 A0_0 c0_0 l0_0 A0_1 c0_1 l0_1 a0_2 a0_3 a0_4 a0_5 a0_6 a0_7 a0_8 a0_9 A0_10 c0_10 l0_10 A0_11 c0_11 l0_11 false _ ?side1 ?side2 ?side3 ?side4 ?side5 ?side6 ?side7 ?side8 ?side9 A7.out).mono ?_
      (case side1 => repeat (first | exact (yY HR0_0.out HB.out) | (with_reducible first | refine yV ?_ _ | refine yW ?_ _ | refine yX ?_)))
      (case side2 => exact HC0_0.out)
      (case side3 => repeat (first | exact (yY HR0_1.out HB.out) | (with_reducible first | refine yV ?_ _ | refine yW ?_ _ | refine yX ?_)))
      (case side4 => exact HC0_1.out)
      (case side5 => repeat (first | exact (yY HR0_10.out HB.out) | (with_reducible first | refine yV ?_ _ | refine yW ?_ _ | refine yX ?_)))
      (case side6 => exact HC0_10.out)
      (case side7 => repeat (first | exact (yY HR0_11.out HB.out) | (with_reducible first | refine yV ?_ _ | refine yW ?_ _ | refine yX ?_)))
      (case side8 => exact HC0_11.out)
      (case side9 => (with_reducible repeat (first | refine yM ?_ _ | refine yO ?_ | refine yN ?_ _)); exact BK40.out)
      rintro e w36 ⟨rfl, hb⟩
      refine ⟨_, rfl, ?_⟩
      have n0_ := yD (zB (g := g0_0) (o := .cells #[.slice A0_0 l0_0.length c0_0, .slice A0_1 l0_1.length c0_1, .int .i64 a0_2, .bool a0_3, .int .i64 a0_4, .int .i64 a0_5, .int .i64 a0_6, .int .i64 a0_7, .int .i64 a0_8, .int .i64 a0_9, .slice A0_10 l0_10.length c0_10, .slice A0_11 l0_11.length c0_11] 48 (0, 0)) (by (with_reducible repeat (first | refine yM ?_ _ | refine yO ?_ | refine yN ?_ _)); exact BK40.out) hb)
      have n1_ := yD (zB (g := gb197) (o := .cells #[.int .i64 a0_4, .int .i64 a0_5, .int .i64 a0_6, .int .i64 a0_7] 45 (0, 0)) (by (with_reducible repeat (first | refine yM ?_ _ | refine yO ?_ | refine yN ?_ _)); exact BK197.out) hb)
      have n2_ := yD (zC (by repeat (first | (with_reducible first | exact HB.out | apply yQ | apply yL | apply yP | refine yE ?_ GE40.out | refine yE ?_ GE197.out) | exact HB.out)) hb)
      clear BK40 BK197 HB; have BK40 := n0_; have BK197 := n1_; have HB := n2_; clear n0_ n1_ n2_; (try clear hb); (try clear hb2); (try clear hk); (try clear hi)
      refine hK.out _ _ trivial (fun hHeld => ?_)
      clear hK K
      refine norm_ (a' := ?_) ?_ ?_
      rotate_left
      · show Act.put _ (some 11) _ = _
        simp only [Act.put, zH, zI, zJ, i64_w, i32_w]
        rfl
      refine qA 4 12 (bz 38 31) HT_ ?_
      refine qA 5 13 (bz 38 63) HT_ ?_
      refine qB 6 14 (bz 38 127) HT_ ?_
      refine qB 7 15 (bz 38 255) HT_ ?_
      refine qB 8 16 (bz 38 511) HT_ ?_
      refine qB 9 17 (bz 38 1023) HT_ ?_
      refine qB 10 18 (bz 38 2047) HT_ ?_
      refine qB 11 19 (bz 38 4095) HT_ ?_
      refine qB 12 20 (bz 38 8191) HT_ ?_
      refine qB 13 21 (bz 38 16383) HT_ ?_
      refine qB 14 22 (bz 38 32767) HT_ ?_
      refine qB 15 23 (bz 38 65535) HT_ ?_
      refine qB 16 24 (bz 38 131071) HT_ ?_
      refine qB 17 25 (bz 38 262143) HT_ ?_
      refine qB 18 26 (bz 38 524287) HT_ ?_
      refine qB 19 27 (bz 38 1048575) HT_ ?_
      refine qB 20 28 (bz 38 2097151) HT_ ?_
      refine qA 21 29 (bz 38 4194303) HT_ ?_
      refine qA 22 30 (bz 38 8388607) HT_ ?_
      refine qB 23 31 (bz 38 16777215) HT_ ?_
      refine qB 24 32 (bz 38 33554431) HT_ ?_
      refine qB 25 33 (bz 38 67108863) HT_ ?_
      refine qA 26 34 (bz 38 134217727) HT_ ?_
      refine qA 27 35 (bz 38 268435455) HT_ ?_
      refine qB 28 36 (bz 38 536870911) HT_ ?_
      refine qB 29 37 (bz 38 1073741823) HT_ ?_
      refine qB 30 38 (bz 38 2147483647) HT_ ?_
      refine qB 31 39 (bz 38 4294967295) HT_ ?_
      refine qB 32 40 (bz 38 8589934591) HT_ ?_
      refine qB 33 41 (bz 38 17179869183) HT_ ?_
      refine qB 34 42 (bz 38 34359738367) HT_ ?_
      refine qB 35 43 (bz 38 68719476735) HT_ ?_
      refine qB 36 44 (bz 38 137438953471) HT_ ?_
      refine qA 37 45 (bz 38 274877906943) HT_ ?_
      refine done_ (done_of HT_.out (by kernel_rfl)) ?_
      try go_wp2
      go_meet
      case rel => exact ⟨_, (true), (by first | rfl | (simp; done) | (simp [*]; done)), H', ⟨by first | omega | exact Nat.le_refl _⟩, ⟨by (with_reducible repeat (first | refine yM ?_ _ | refine yO ?_ | refine yN ?_ _)); exact BK40.out⟩, ⟨by (with_reducible repeat (first | refine yM ?_ _ | refine yO ?_ | refine yN ?_ _)); exact BK197.out⟩, ⟨by repeat (first | (with_reducible first | exact HB.out | apply yQ | apply yL | apply yP | refine yE ?_ GE40.out | refine yE ?_ GE197.out) | exact HB.out)⟩⟩
  case rest =>
    clear HC2; try clear c2; try clear p2; try clear c4; try clear c5; try clear c8; try clear c9; try clear c25
    obtain ⟨kq, x45_1, rfl, HA, HJ1, BK40, BK197, HB⟩ := hcut
    cases kq with
    | zero => exact absurd HA.out (by simp [spec_l12Ok_c48.j0])
    | succ kj1 =>
      have H := HA.out; clear HA
      simp only [spec_l12Ok_c48.j0] at H
      by_cases c37 : x45_1 = true
      · subst c37
        have H1 : (some false) = some r := by rw [if_pos rfl] at H; exact H
        clear H; have H := H1; clear H1; obtain rfl := Option.some.inj H
        go_wp2
        go_ret
        exact ⟨by first | rfl | (simp <;> rfl) | (simp [*] <;> rfl), by repeat (first | (with_reducible first | exact HB.out | apply yQ | apply yL | apply yP | refine yE ?_ GE40.out | refine yE ?_ GE197.out) | exact HB.out)⟩
      · replace c37 := Bool.eq_false_iff.mpr c37
        subst c37
        have H1 : ((spec_l00In.f a0_8 a0_6 1000000000000).bind fun t201 => (if t201 = true then ((spec_l00In.f a0_9 0 a0_5).bind fun t202 => (if t202 = true then ((spec_l11Pages.f kj1 l0_10).bind fun t203 => (if t203 = true then ((spec_l11Pages.f kj1 l0_11).bind fun t204 => (if t204 = true then ((spec_l11Within.f kj1 a0_4 a0_5 a0_6 a0_7 l0_10).bind fun t205 => (if t205 = true then ((spec_l11Within.f kj1 a0_4 a0_5 a0_6 a0_7 l0_11).bind fun t206 => (if t206 = true then ((spec_l12Fits.f a0_4 a0_5 a0_6 a0_7 (l0_11.length : Int)).bind fun t207 => (some t207)) else (some false))) else (some false))) else (some false))) else (some false))) else (some false))) else (some false))) = some r := by rw [if_neg (show ¬ (false = true) by decide)] at H; exact H
        clear H; have H := H1; clear H1
        obtain ⟨t201, A380, H⟩ := zW_ H
        replace H : (if t201 = true then ((spec_l00In.f a0_9 0 a0_5).bind fun t202 => (if t202 = true then ((spec_l11Pages.f kj1 l0_10).bind fun t203 => (if t203 = true then ((spec_l11Pages.f kj1 l0_11).bind fun t204 => (if t204 = true then ((spec_l11Within.f kj1 a0_4 a0_5 a0_6 a0_7 l0_10).bind fun t205 => (if t205 = true then ((spec_l11Within.f kj1 a0_4 a0_5 a0_6 a0_7 l0_11).bind fun t206 => (if t206 = true then ((spec_l12Fits.f a0_4 a0_5 a0_6 a0_7 (l0_11.length : Int)).bind fun t207 => (some t207)) else (some false))) else (some false))) else (some false))) else (some false))) else (some false))) else (some false)) = some r := H
        have A38 := yD A380
        clear A380
        by_cases c39 : t201 = true
        · subst c39
          have H1 : ((spec_l00In.f a0_9 0 a0_5).bind fun t202 => (if t202 = true then ((spec_l11Pages.f kj1 l0_10).bind fun t203 => (if t203 = true then ((spec_l11Pages.f kj1 l0_11).bind fun t204 => (if t204 = true then ((spec_l11Within.f kj1 a0_4 a0_5 a0_6 a0_7 l0_10).bind fun t205 => (if t205 = true then ((spec_l11Within.f kj1 a0_4 a0_5 a0_6 a0_7 l0_11).bind fun t206 => (if t206 = true then ((spec_l12Fits.f a0_4 a0_5 a0_6 a0_7 (l0_11.length : Int)).bind fun t207 => (some t207)) else (some false))) else (some false))) else (some false))) else (some false))) else (some false))) = some r := by rw [if_pos rfl] at H; exact H
          clear H; have H := H1; clear H1
          obtain ⟨t202, A400, H⟩ := zW_ H
          replace H : (if t202 = true then ((spec_l11Pages.f kj1 l0_10).bind fun t203 => (if t203 = true then ((spec_l11Pages.f kj1 l0_11).bind fun t204 => (if t204 = true then ((spec_l11Within.f kj1 a0_4 a0_5 a0_6 a0_7 l0_10).bind fun t205 => (if t205 = true then ((spec_l11Within.f kj1 a0_4 a0_5 a0_6 a0_7 l0_11).bind fun t206 => (if t206 = true then ((spec_l12Fits.f a0_4 a0_5 a0_6 a0_7 (l0_11.length : Int)).bind fun t207 => (some t207)) else (some false))) else (some false))) else (some false))) else (some false))) else (some false)) = some r := H
          have A40 := yD A400
          clear A400
          by_cases c41 : t202 = true
          · subst c41
            have H1 : ((spec_l11Pages.f kj1 l0_10).bind fun t203 => (if t203 = true then ((spec_l11Pages.f kj1 l0_11).bind fun t204 => (if t204 = true then ((spec_l11Within.f kj1 a0_4 a0_5 a0_6 a0_7 l0_10).bind fun t205 => (if t205 = true then ((spec_l11Within.f kj1 a0_4 a0_5 a0_6 a0_7 l0_11).bind fun t206 => (if t206 = true then ((spec_l12Fits.f a0_4 a0_5 a0_6 a0_7 (l0_11.length : Int)).bind fun t207 => (some t207)) else (some false))) else (some false))) else (some false))) else (some false))) = some r := by rw [if_pos rfl] at H; exact H
            clear H; have H := H1; clear H1
            obtain ⟨t203, A420, H⟩ := zW_ H
            replace H : (if t203 = true then ((spec_l11Pages.f kj1 l0_11).bind fun t204 => (if t204 = true then ((spec_l11Within.f kj1 a0_4 a0_5 a0_6 a0_7 l0_10).bind fun t205 => (if t205 = true then ((spec_l11Within.f kj1 a0_4 a0_5 a0_6 a0_7 l0_11).bind fun t206 => (if t206 = true then ((spec_l12Fits.f a0_4 a0_5 a0_6 a0_7 (l0_11.length : Int)).bind fun t207 => (some t207)) else (some false))) else (some false))) else (some false))) else (some false)) = some r := H
            have A42 := yD A420
            clear A420
            by_cases c43 : t203 = true
            · subst c43
              have H1 : ((spec_l11Pages.f kj1 l0_11).bind fun t204 => (if t204 = true then ((spec_l11Within.f kj1 a0_4 a0_5 a0_6 a0_7 l0_10).bind fun t205 => (if t205 = true then ((spec_l11Within.f kj1 a0_4 a0_5 a0_6 a0_7 l0_11).bind fun t206 => (if t206 = true then ((spec_l12Fits.f a0_4 a0_5 a0_6 a0_7 (l0_11.length : Int)).bind fun t207 => (some t207)) else (some false))) else (some false))) else (some false))) = some r := by rw [if_pos rfl] at H; exact H
              clear H; have H := H1; clear H1
              obtain ⟨t204, A440, H⟩ := zW_ H
              replace H : (if t204 = true then ((spec_l11Within.f kj1 a0_4 a0_5 a0_6 a0_7 l0_10).bind fun t205 => (if t205 = true then ((spec_l11Within.f kj1 a0_4 a0_5 a0_6 a0_7 l0_11).bind fun t206 => (if t206 = true then ((spec_l12Fits.f a0_4 a0_5 a0_6 a0_7 (l0_11.length : Int)).bind fun t207 => (some t207)) else (some false))) else (some false))) else (some false)) = some r := H
              have A44 := yD A440
              clear A440
              by_cases c45 : t204 = true
              · subst c45
                have H1 : ((spec_l11Within.f kj1 a0_4 a0_5 a0_6 a0_7 l0_10).bind fun t205 => (if t205 = true then ((spec_l11Within.f kj1 a0_4 a0_5 a0_6 a0_7 l0_11).bind fun t206 => (if t206 = true then ((spec_l12Fits.f a0_4 a0_5 a0_6 a0_7 (l0_11.length : Int)).bind fun t207 => (some t207)) else (some false))) else (some false))) = some r := by rw [if_pos rfl] at H; exact H
                clear H; have H := H1; clear H1
                obtain ⟨t205, A460, H⟩ := zW_ H
                replace H : (if t205 = true then ((spec_l11Within.f kj1 a0_4 a0_5 a0_6 a0_7 l0_11).bind fun t206 => (if t206 = true then ((spec_l12Fits.f a0_4 a0_5 a0_6 a0_7 (l0_11.length : Int)).bind fun t207 => (some t207)) else (some false))) else (some false)) = some r := H
                have A46 := yD A460
                clear A460
                by_cases c47 : t205 = true
                · subst c47
                  have H1 : ((spec_l11Within.f kj1 a0_4 a0_5 a0_6 a0_7 l0_11).bind fun t206 => (if t206 = true then ((spec_l12Fits.f a0_4 a0_5 a0_6 a0_7 (l0_11.length : Int)).bind fun t207 => (some t207)) else (some false))) = some r := by rw [if_pos rfl] at H; exact H
                  clear H; have H := H1; clear H1
                  obtain ⟨t206, A480, H⟩ := zW_ H
                  replace H : (if t206 = true then ((spec_l12Fits.f a0_4 a0_5 a0_6 a0_7 (l0_11.length : Int)).bind fun t207 => (some t207)) else (some false)) = some r := H
                  have A48 := yD A480
                  clear A480
                  by_cases c49 : t206 = true
                  · subst c49
                    have H1 : ((spec_l12Fits.f a0_4 a0_5 a0_6 a0_7 (l0_11.length : Int)).bind fun t207 => (some t207)) = some r := by rw [if_pos rfl] at H; exact H
                    clear H; have H := H1; clear H1
                    obtain ⟨t207, A500, H⟩ := zW_ H
                    replace H : (some t207) = some r := H
                    have A50 := yD A500
                    clear A500; obtain rfl := Option.some.inj H
                    try go_wp2
                    have n0_ := yD (yO BK40.out)
                    have n1_ := yD (yO BK197.out)
                    have n2_ := yD (yP HB.out)
                    clear BK40 BK197 HB; have BK40 := n0_; have BK197 := n1_; have HB := n2_; clear n0_ n1_ n2_
                    refine start_ (n := 52) (S := fun w' => w'.cell? ⟨g0_0, 0, none⟩ = some (.slice A0_0 l0_0.length c0_0) ∧ w'.cell? ⟨g0_0, 1, none⟩ = some (.slice A0_1 l0_1.length c0_1) ∧ w'.cell? ⟨g0_0, 2, none⟩ = some (.int .i64 a0_2) ∧ w'.cell? ⟨g0_0, 3, none⟩ = some (.bool a0_3) ∧ w'.cell? ⟨g0_0, 4, none⟩ = some (.int .i64 a0_4) ∧ w'.cell? ⟨g0_0, 5, none⟩ = some (.int .i64 a0_5) ∧ w'.cell? ⟨g0_0, 6, none⟩ = some (.int .i64 a0_6) ∧ w'.cell? ⟨g0_0, 7, none⟩ = some (.int .i64 a0_7) ∧ w'.cell? ⟨g0_0, 8, none⟩ = some (.int .i64 a0_8) ∧ w'.cell? ⟨g0_0, 9, none⟩ = some (.int .i64 a0_9) ∧ w'.cell? ⟨g0_0, 10, none⟩ = some (.slice A0_10 l0_10.length c0_10) ∧ w'.cell? ⟨g0_0, 11, none⟩ = some (.slice A0_11 l0_11.length c0_11) ∧ w'.cell? ⟨gb197, 0, none⟩ = some (.int .i64 a0_4) ∧ w'.cell? ⟨gb197, 1, none⟩ = some (.int .i64 a0_5) ∧ w'.cell? ⟨gb197, 2, none⟩ = some (.int .i64 a0_6) ∧ w'.cell? ⟨gb197, 3, none⟩ = some (.int .i64 a0_7)) (ds := []) (bz 52 0) (by kernel_rfl) rfl rfl ⟨(yG BK40.out 0).trans rfl, (yG BK40.out 1).trans rfl, (yG BK40.out 2).trans rfl, (yG BK40.out 3).trans rfl, (yG BK40.out 4).trans rfl, (yG BK40.out 5).trans rfl, (yG BK40.out 6).trans rfl, (yG BK40.out 7).trans rfl, (yG BK40.out 8).trans rfl, (yG BK40.out 9).trans rfl, (yG BK40.out 10).trans rfl, (yG BK40.out 11).trans rfl, (yG BK197.out 0).trans rfl, (yG BK197.out 1).trans rfl, (yG BK197.out 2).trans rfl, (yG BK197.out 3).trans rfl⟩ (fun hHeld => ?_); refine with_tabW spec_l12Ok_c48.tab4 spec_l12Ok_c48.bits4 (fun HT_ HW_ => ?_)
                    generalize wc.drew = w51 at BK40 BK197 HB hHeld ⊢
                    refine qA 0 46 (bz 52 1) HT_ ?_
                    refine qA 1 47 (bz 52 3) HT_ ?_
                    refine qA 2 48 (bz 52 7) HT_ ?_
                    refine qA 4 50 (bz 52 23) HT_ ?_
                    refine qC 3 49 (bz 52 31) HT_ HW_ hHeld ?_ (hy := by rintro w' ⟨s0, s1, s2, s3, s4, s5, s6, s7, s8, s9, s10, s11, s12, s13, s14, s15⟩; go_simp; with_reducible rfl)
                    refine qC 5 51 (bz 52 63) HT_ HW_ hHeld ?_ (hy := by rintro w' ⟨s0, s1, s2, s3, s4, s5, s6, s7, s8, s9, s10, s11, s12, s13, s14, s15⟩; go_simp; with_reducible rfl)
                    refine one_ (i := 6) (N := some 52) (bz 52 127) rfl rfl (one_of HT_.out (by kernel_rfl)) (by decide) (fun K hK => ?_)
                    refine goes_ Try.func44 (by kernel_rfl) rfl #[.int .i64 a0_8, .int .i64 a0_6, .int .i64 1000000000000] (by rfl) rfl rfl (by (try simp only [zK, zL, zM]); first | done | rfl | (simp only [zN, zO]; rfl)) ?_
                    with_reducible refine (spec_l00In.calls a0_8 a0_6 1000000000000 true _ A38.out).mono ?_
                    rintro e w' ⟨rfl, ⟨nd, rfl⟩⟩
                    refine ⟨_, rfl, ?_⟩
                    refine hK.out _ _ ⟨(yG BK40.out 0).trans rfl, (yG BK40.out 1).trans rfl, (yG BK40.out 2).trans rfl, (yG BK40.out 3).trans rfl, (yG BK40.out 4).trans rfl, (yG BK40.out 5).trans rfl, (yG BK40.out 6).trans rfl, (yG BK40.out 7).trans rfl, (yG BK40.out 8).trans rfl, (yG BK40.out 9).trans rfl, (yG BK40.out 10).trans rfl, (yG BK40.out 11).trans rfl, (yG BK197.out 0).trans rfl, (yG BK197.out 1).trans rfl, (yG BK197.out 2).trans rfl, (yG BK197.out 3).trans rfl⟩ (fun hHeld => ?_)
                    clear hK K
                    refine norm_ (a' := ?_) ?_ ?_
                    rotate_left
                    · show Act.put _ (some 52) _ = _
                      simp only [Act.put, zH, zI, zJ, i64_w, i32_w]
                      rfl
                    refine qA 7 53 (bz 52 255) HT_ ?_
                    refine qA 8 54 (bz 52 511) HT_ ?_
                    refine qA 9 55 (bz 52 1023) HT_ ?_
                    refine qA 10 56 (bz 52 2047) HT_ ?_
                    refine qA 11 57 (bz 52 4095) HT_ ?_
                    refine qA 13 59 (bz 52 12287) HT_ ?_
                    refine qC 12 58 (bz 52 16383) HT_ HW_ hHeld ?_ (hy := by rintro w' ⟨s0, s1, s2, s3, s4, s5, s6, s7, s8, s9, s10, s11, s12, s13, s14, s15⟩; go_simp; with_reducible rfl)
                    refine qC 14 60 (bz 52 32767) HT_ HW_ hHeld ?_ (hy := by rintro w' ⟨s0, s1, s2, s3, s4, s5, s6, s7, s8, s9, s10, s11, s12, s13, s14, s15⟩; go_simp; with_reducible rfl)
                    refine one_ (i := 15) (N := some 61) (bz 52 65535) rfl rfl (one_of HT_.out (by kernel_rfl)) (by decide) (fun K hK => ?_)
                    refine goes_ Try.func44 (by kernel_rfl) rfl #[.int .i64 a0_9, .int .i64 0, .int .i64 a0_5] (by rfl) rfl rfl (by (try simp only [zK, zL, zM]); first | done | rfl | (simp only [zN, zO]; rfl)) ?_
                    with_reducible refine (spec_l00In.calls a0_9 0 a0_5 true _ A40.out).mono ?_
                    rintro e w' ⟨rfl, ⟨nd, rfl⟩⟩
                    refine ⟨_, rfl, ?_⟩
                    refine hK.out _ _ ⟨(yG BK40.out 0).trans rfl, (yG BK40.out 1).trans rfl, (yG BK40.out 2).trans rfl, (yG BK40.out 3).trans rfl, (yG BK40.out 4).trans rfl, (yG BK40.out 5).trans rfl, (yG BK40.out 6).trans rfl, (yG BK40.out 7).trans rfl, (yG BK40.out 8).trans rfl, (yG BK40.out 9).trans rfl, (yG BK40.out 10).trans rfl, (yG BK40.out 11).trans rfl, (yG BK197.out 0).trans rfl, (yG BK197.out 1).trans rfl, (yG BK197.out 2).trans rfl, (yG BK197.out 3).trans rfl⟩ (fun hHeld => ?_)
                    clear hK K
                    refine norm_ (a' := ?_) ?_ ?_
                    rotate_left
                    · show Act.put _ (some 61) _ = _
                      simp only [Act.put, zH, zI, zJ, i64_w, i32_w]
                      rfl
                    refine qA 16 62 (bz 52 131071) HT_ ?_
                    refine qA 17 63 (bz 52 262143) HT_ ?_
                    refine qA 18 64 (bz 52 524287) HT_ ?_
                    refine qA 19 65 (bz 52 1048575) HT_ ?_
                    refine qA 20 66 (bz 52 2097151) HT_ ?_
                    refine qA 21 67 (bz 52 4194303) HT_ ?_
                    refine qC 22 68 (bz 52 8388607) HT_ HW_ hHeld ?_ (hy := by rintro w' ⟨s0, s1, s2, s3, s4, s5, s6, s7, s8, s9, s10, s11, s12, s13, s14, s15⟩; go_simp; with_reducible rfl)
                    refine one_ (i := 23) (N := some 69) (bz 52 16777215) rfl rfl (one_of HT_.out (by kernel_rfl)) (by decide) (fun K hK => ?_)
                    refine goes_ Try.func58 (by kernel_rfl) rfl #[.slice A0_10 l0_10.length c0_10] (by rfl) rfl rfl (by (try simp only [zK, zL, zM]); first | done | rfl | (simp only [zN, zO]; rfl)) ?_
                    with_reducible refine (spec_l11Pages.calls kj1 _ _ l0_10 true _ ?side1 ?side2 A42.out).mono ?_
                    (case side1 => repeat (first | exact (yY HR0_10.out (by repeat (first | (with_reducible first | exact HB.out | apply yQ | apply yL | apply yP | refine yE ?_ GE40.out | refine yE ?_ GE197.out) | exact HB.out))) | (with_reducible first | refine yV ?_ _ | refine yW ?_ _ | refine yX ?_)))
                    (case side2 => exact HC0_10.out)
                    rintro e w52 ⟨rfl, hb⟩
                    refine ⟨_, rfl, ?_⟩
                    have n0_ := yD (zB (g := g0_0) (o := .cells #[.slice A0_0 l0_0.length c0_0, .slice A0_1 l0_1.length c0_1, .int .i64 a0_2, .bool a0_3, .int .i64 a0_4, .int .i64 a0_5, .int .i64 a0_6, .int .i64 a0_7, .int .i64 a0_8, .int .i64 a0_9, .slice A0_10 l0_10.length c0_10, .slice A0_11 l0_11.length c0_11] 48 (0, 0)) (by (with_reducible repeat (first | refine yM ?_ _ | refine yO ?_ | refine yN ?_ _)); exact BK40.out) hb)
                    have n1_ := yD (zB (g := gb197) (o := .cells #[.int .i64 a0_4, .int .i64 a0_5, .int .i64 a0_6, .int .i64 a0_7] 45 (0, 0)) (by (with_reducible repeat (first | refine yM ?_ _ | refine yO ?_ | refine yN ?_ _)); exact BK197.out) hb)
                    have n2_ := yD (zC (by repeat (first | (with_reducible first | exact HB.out | apply yQ | apply yL | apply yP | refine yE ?_ GE40.out | refine yE ?_ GE197.out) | exact HB.out)) hb)
                    clear BK40 BK197 HB; have BK40 := n0_; have BK197 := n1_; have HB := n2_; clear n0_ n1_ n2_; (try clear hb); (try clear hb2); (try clear hk); (try clear hi)
                    refine hK.out _ _ ⟨(yG BK40.out 0).trans rfl, (yG BK40.out 1).trans rfl, (yG BK40.out 2).trans rfl, (yG BK40.out 3).trans rfl, (yG BK40.out 4).trans rfl, (yG BK40.out 5).trans rfl, (yG BK40.out 6).trans rfl, (yG BK40.out 7).trans rfl, (yG BK40.out 8).trans rfl, (yG BK40.out 9).trans rfl, (yG BK40.out 10).trans rfl, (yG BK40.out 11).trans rfl, (yG BK197.out 0).trans rfl, (yG BK197.out 1).trans rfl, (yG BK197.out 2).trans rfl, (yG BK197.out 3).trans rfl⟩ (fun hHeld => ?_)
                    clear hK K
                    refine norm_ (a' := ?_) ?_ ?_
                    rotate_left
                    · show Act.put _ (some 69) _ = _
                      simp only [Act.put, zH, zI, zJ, i64_w, i32_w]
                      rfl
                    refine qA 24 70 (bz 52 33554431) HT_ ?_
                    refine qA 25 71 (bz 52 67108863) HT_ ?_
                    refine qA 26 72 (bz 52 134217727) HT_ ?_
                    refine qA 27 73 (bz 52 268435455) HT_ ?_
                    refine qA 28 74 (bz 52 536870911) HT_ ?_
                    refine qA 29 75 (bz 52 1073741823) HT_ ?_
                    refine qC 30 76 (bz 52 2147483647) HT_ HW_ hHeld ?_ (hy := by rintro w' ⟨s0, s1, s2, s3, s4, s5, s6, s7, s8, s9, s10, s11, s12, s13, s14, s15⟩; go_simp; with_reducible rfl)
                    refine one_ (i := 31) (N := some 77) (bz 52 4294967295) rfl rfl (one_of HT_.out (by kernel_rfl)) (by decide) (fun K hK => ?_)
                    refine goes_ Try.func58 (by kernel_rfl) rfl #[.slice A0_11 l0_11.length c0_11] (by rfl) rfl rfl (by (try simp only [zK, zL, zM]); first | done | rfl | (simp only [zN, zO]; rfl)) ?_
                    with_reducible refine (spec_l11Pages.calls kj1 _ _ l0_11 true _ ?side1 ?side2 A44.out).mono ?_
                    (case side1 => repeat (first | exact (yY HR0_11.out HB.out) | (with_reducible first | refine yV ?_ _ | refine yW ?_ _ | refine yX ?_)))
                    (case side2 => exact HC0_11.out)
                    rintro e w53 ⟨rfl, hb⟩
                    refine ⟨_, rfl, ?_⟩
                    have n0_ := yD (zB (g := g0_0) (o := .cells #[.slice A0_0 l0_0.length c0_0, .slice A0_1 l0_1.length c0_1, .int .i64 a0_2, .bool a0_3, .int .i64 a0_4, .int .i64 a0_5, .int .i64 a0_6, .int .i64 a0_7, .int .i64 a0_8, .int .i64 a0_9, .slice A0_10 l0_10.length c0_10, .slice A0_11 l0_11.length c0_11] 48 (0, 0)) (by (with_reducible repeat (first | refine yM ?_ _ | refine yO ?_ | refine yN ?_ _)); exact BK40.out) hb)
                    have n1_ := yD (zB (g := gb197) (o := .cells #[.int .i64 a0_4, .int .i64 a0_5, .int .i64 a0_6, .int .i64 a0_7] 45 (0, 0)) (by (with_reducible repeat (first | refine yM ?_ _ | refine yO ?_ | refine yN ?_ _)); exact BK197.out) hb)
                    have n2_ := yD (zC (by repeat (first | (with_reducible first | exact HB.out | apply yQ | apply yL | apply yP | refine yE ?_ GE40.out | refine yE ?_ GE197.out) | exact HB.out)) hb)
                    clear BK40 BK197 HB; have BK40 := n0_; have BK197 := n1_; have HB := n2_; clear n0_ n1_ n2_; (try clear hb); (try clear hb2); (try clear hk); (try clear hi)
                    refine hK.out _ _ ⟨(yG BK40.out 0).trans rfl, (yG BK40.out 1).trans rfl, (yG BK40.out 2).trans rfl, (yG BK40.out 3).trans rfl, (yG BK40.out 4).trans rfl, (yG BK40.out 5).trans rfl, (yG BK40.out 6).trans rfl, (yG BK40.out 7).trans rfl, (yG BK40.out 8).trans rfl, (yG BK40.out 9).trans rfl, (yG BK40.out 10).trans rfl, (yG BK40.out 11).trans rfl, (yG BK197.out 0).trans rfl, (yG BK197.out 1).trans rfl, (yG BK197.out 2).trans rfl, (yG BK197.out 3).trans rfl⟩ (fun hHeld => ?_)
                    clear hK K
                    refine norm_ (a' := ?_) ?_ ?_
                    rotate_left
                    · show Act.put _ (some 77) _ = _
                      simp only [Act.put, zH, zI, zJ, i64_w, i32_w]
                      rfl
                    refine qA 32 78 (bz 52 8589934591) HT_ ?_
                    refine qA 33 79 (bz 52 17179869183) HT_ ?_
                    refine qA 34 80 (bz 52 34359738367) HT_ ?_
                    refine qA 36 82 (bz 52 103079215103) HT_ ?_
                    refine qA 37 83 (bz 52 240518168575) HT_ ?_
                    refine qA 38 84 (bz 52 515396075519) HT_ ?_
                    refine qC 35 81 (bz 52 549755813887) HT_ HW_ hHeld ?_ (hy := by rintro w' ⟨s0, s1, s2, s3, s4, s5, s6, s7, s8, s9, s10, s11, s12, s13, s14, s15⟩; go_simp; with_reducible rfl)
                    refine qC 39 85 (bz 52 1099511627775) HT_ HW_ hHeld ?_ (hy := by rintro w' ⟨s0, s1, s2, s3, s4, s5, s6, s7, s8, s9, s10, s11, s12, s13, s14, s15⟩; go_simp; with_reducible rfl)
                    refine one_ (i := 40) (N := some 86) (bz 52 2199023255551) rfl rfl (one_of HT_.out (by kernel_rfl)) (by decide) (fun K hK => ?_)
                    refine goes_ Try.func59 (by kernel_rfl) rfl #[.agg #[.int .i64 a0_4, .int .i64 a0_5, .int .i64 a0_6, .int .i64 a0_7], .slice A0_10 l0_10.length c0_10] (by rfl) rfl rfl (by (try simp only [zK, zL, zM]); first | done | rfl | (simp only [zN, zO]; rfl)) ?_
                    with_reducible refine (spec_l11Within.calls kj1 a0_4 a0_5 a0_6 a0_7 _ _ l0_10 true _ ?side1 ?side2 A46.out).mono ?_
                    (case side1 => repeat (first | exact (yY HR0_10.out HB.out) | (with_reducible first | refine yV ?_ _ | refine yW ?_ _ | refine yX ?_)))
                    (case side2 => exact HC0_10.out)
                    rintro e w54 ⟨rfl, hb⟩
                    refine ⟨_, rfl, ?_⟩
                    have n0_ := yD (zB (g := g0_0) (o := .cells #[.slice A0_0 l0_0.length c0_0, .slice A0_1 l0_1.length c0_1, .int .i64 a0_2, .bool a0_3, .int .i64 a0_4, .int .i64 a0_5, .int .i64 a0_6, .int .i64 a0_7, .int .i64 a0_8, .int .i64 a0_9, .slice A0_10 l0_10.length c0_10, .slice A0_11 l0_11.length c0_11] 48 (0, 0)) (by (with_reducible repeat (first | refine yM ?_ _ | refine yO ?_ | refine yN ?_ _)); exact BK40.out) hb)
                    have n1_ := yD (zB (g := gb197) (o := .cells #[.int .i64 a0_4, .int .i64 a0_5, .int .i64 a0_6, .int .i64 a0_7] 45 (0, 0)) (by (with_reducible repeat (first | refine yM ?_ _ | refine yO ?_ | refine yN ?_ _)); exact BK197.out) hb)
                    have n2_ := yD (zC (by repeat (first | (with_reducible first | exact HB.out | apply yQ | apply yL | apply yP | refine yE ?_ GE40.out | refine yE ?_ GE197.out) | exact HB.out)) hb)
                    clear BK40 BK197 HB; have BK40 := n0_; have BK197 := n1_; have HB := n2_; clear n0_ n1_ n2_; (try clear hb); (try clear hb2); (try clear hk); (try clear hi)
                    refine hK.out _ _ ⟨(yG BK40.out 0).trans rfl, (yG BK40.out 1).trans rfl, (yG BK40.out 2).trans rfl, (yG BK40.out 3).trans rfl, (yG BK40.out 4).trans rfl, (yG BK40.out 5).trans rfl, (yG BK40.out 6).trans rfl, (yG BK40.out 7).trans rfl, (yG BK40.out 8).trans rfl, (yG BK40.out 9).trans rfl, (yG BK40.out 10).trans rfl, (yG BK40.out 11).trans rfl, (yG BK197.out 0).trans rfl, (yG BK197.out 1).trans rfl, (yG BK197.out 2).trans rfl, (yG BK197.out 3).trans rfl⟩ (fun hHeld => ?_)
                    clear hK K
                    refine norm_ (a' := ?_) ?_ ?_
                    rotate_left
                    · show Act.put _ (some 86) _ = _
                      simp only [Act.put, zH, zI, zJ, i64_w, i32_w]
                      rfl
                    refine qA 41 87 (bz 52 4398046511103) HT_ ?_
                    refine qA 42 88 (bz 52 8796093022207) HT_ ?_
                    refine qA 43 89 (bz 52 17592186044415) HT_ ?_
                    refine qA 45 91 (bz 52 52776558133247) HT_ ?_
                    refine qA 46 92 (bz 52 123145302310911) HT_ ?_
                    refine qA 47 93 (bz 52 263882790666239) HT_ ?_
                    refine qC 44 90 (bz 52 281474976710655) HT_ HW_ hHeld ?_ (hy := by rintro w' ⟨s0, s1, s2, s3, s4, s5, s6, s7, s8, s9, s10, s11, s12, s13, s14, s15⟩; go_simp; with_reducible rfl)
                    refine qC 48 94 (bz 52 562949953421311) HT_ HW_ hHeld ?_ (hy := by rintro w' ⟨s0, s1, s2, s3, s4, s5, s6, s7, s8, s9, s10, s11, s12, s13, s14, s15⟩; go_simp; with_reducible rfl)
                    refine one_ (i := 49) (N := some 95) (bz 52 1125899906842623) rfl rfl (one_of HT_.out (by kernel_rfl)) (by decide) (fun K hK => ?_)
                    refine goes_ Try.func59 (by kernel_rfl) rfl #[.agg #[.int .i64 a0_4, .int .i64 a0_5, .int .i64 a0_6, .int .i64 a0_7], .slice A0_11 l0_11.length c0_11] (by rfl) rfl rfl (by (try simp only [zK, zL, zM]); first | done | rfl | (simp only [zN, zO]; rfl)) ?_
                    with_reducible refine (spec_l11Within.calls kj1 a0_4 a0_5 a0_6 a0_7 _ _ l0_11 true _ ?side1 ?side2 A48.out).mono ?_
                    (case side1 => repeat (first | exact (yY HR0_11.out HB.out) | (with_reducible first | refine yV ?_ _ | refine yW ?_ _ | refine yX ?_)))
                    (case side2 => exact HC0_11.out)
                    rintro e w55 ⟨rfl, hb⟩
                    refine ⟨_, rfl, ?_⟩
                    have n0_ := yD (zB (g := g0_0) (o := .cells #[.slice A0_0 l0_0.length c0_0, .slice A0_1 l0_1.length c0_1, .int .i64 a0_2, .bool a0_3, .int .i64 a0_4, .int .i64 a0_5, .int .i64 a0_6, .int .i64 a0_7, .int .i64 a0_8, .int .i64 a0_9, .slice A0_10 l0_10.length c0_10, .slice A0_11 l0_11.length c0_11] 48 (0, 0)) (by (with_reducible repeat (first | refine yM ?_ _ | refine yO ?_ | refine yN ?_ _)); exact BK40.out) hb)
                    have n1_ := yD (zB (g := gb197) (o := .cells #[.int .i64 a0_4, .int .i64 a0_5, .int .i64 a0_6, .int .i64 a0_7] 45 (0, 0)) (by (with_reducible repeat (first | refine yM ?_ _ | refine yO ?_ | refine yN ?_ _)); exact BK197.out) hb)
                    have n2_ := yD (zC (by repeat (first | (with_reducible first | exact HB.out | apply yQ | apply yL | apply yP | refine yE ?_ GE40.out | refine yE ?_ GE197.out) | exact HB.out)) hb)
                    clear BK40 BK197 HB; have BK40 := n0_; have BK197 := n1_; have HB := n2_; clear n0_ n1_ n2_; (try clear hb); (try clear hb2); (try clear hk); (try clear hi)
                    refine hK.out _ _ ⟨(yG BK40.out 0).trans rfl, (yG BK40.out 1).trans rfl, (yG BK40.out 2).trans rfl, (yG BK40.out 3).trans rfl, (yG BK40.out 4).trans rfl, (yG BK40.out 5).trans rfl, (yG BK40.out 6).trans rfl, (yG BK40.out 7).trans rfl, (yG BK40.out 8).trans rfl, (yG BK40.out 9).trans rfl, (yG BK40.out 10).trans rfl, (yG BK40.out 11).trans rfl, (yG BK197.out 0).trans rfl, (yG BK197.out 1).trans rfl, (yG BK197.out 2).trans rfl, (yG BK197.out 3).trans rfl⟩ (fun hHeld => ?_)
                    clear hK K
                    refine norm_ (a' := ?_) ?_ ?_
                    rotate_left
                    · show Act.put _ (some 95) _ = _
                      simp only [Act.put, zH, zI, zJ, i64_w, i32_w]
                      rfl
                    refine qA 50 96 (bz 52 2251799813685247) HT_ ?_
                    refine qA 51 97 (bz 52 4503599627370495) HT_ ?_
                    refine done_ (done_of HT_.out (by kernel_rfl)) ?_
                    try go_wp2
                    have n0_ := yD (yO BK40.out)
                    have n1_ := yD (yO BK197.out)
                    have n2_ := yD (yP HB.out)
                    clear BK40 BK197 HB; have BK40 := n0_; have BK197 := n1_; have HB := n2_; clear n0_ n1_ n2_
                    refine start_ (n := 8) (S := fun w' => w'.cell? ⟨gb197, 0, none⟩ = some (.int .i64 a0_4) ∧ w'.cell? ⟨gb197, 1, none⟩ = some (.int .i64 a0_5) ∧ w'.cell? ⟨gb197, 2, none⟩ = some (.int .i64 a0_6) ∧ w'.cell? ⟨gb197, 3, none⟩ = some (.int .i64 a0_7) ∧ w'.cell? ⟨g0_0, 0, none⟩ = some (.slice A0_0 l0_0.length c0_0) ∧ w'.cell? ⟨g0_0, 1, none⟩ = some (.slice A0_1 l0_1.length c0_1) ∧ w'.cell? ⟨g0_0, 2, none⟩ = some (.int .i64 a0_2) ∧ w'.cell? ⟨g0_0, 3, none⟩ = some (.bool a0_3) ∧ w'.cell? ⟨g0_0, 4, none⟩ = some (.int .i64 a0_4) ∧ w'.cell? ⟨g0_0, 5, none⟩ = some (.int .i64 a0_5) ∧ w'.cell? ⟨g0_0, 6, none⟩ = some (.int .i64 a0_6) ∧ w'.cell? ⟨g0_0, 7, none⟩ = some (.int .i64 a0_7) ∧ w'.cell? ⟨g0_0, 8, none⟩ = some (.int .i64 a0_8) ∧ w'.cell? ⟨g0_0, 9, none⟩ = some (.int .i64 a0_9) ∧ w'.cell? ⟨g0_0, 10, none⟩ = some (.slice A0_10 l0_10.length c0_10) ∧ w'.cell? ⟨g0_0, 11, none⟩ = some (.slice A0_11 l0_11.length c0_11)) (ds := []) (bz 8 0) (by kernel_rfl) rfl rfl ⟨(yG BK197.out 0).trans rfl, (yG BK197.out 1).trans rfl, (yG BK197.out 2).trans rfl, (yG BK197.out 3).trans rfl, (yG BK40.out 0).trans rfl, (yG BK40.out 1).trans rfl, (yG BK40.out 2).trans rfl, (yG BK40.out 3).trans rfl, (yG BK40.out 4).trans rfl, (yG BK40.out 5).trans rfl, (yG BK40.out 6).trans rfl, (yG BK40.out 7).trans rfl, (yG BK40.out 8).trans rfl, (yG BK40.out 9).trans rfl, (yG BK40.out 10).trans rfl, (yG BK40.out 11).trans rfl⟩ (fun hHeld => ?_); refine with_tabW spec_l12Ok_c48.tab6 spec_l12Ok_c48.bits6 (fun HT_ HW_ => ?_)
                    generalize w55.drew = w56 at BK40 BK197 HB hHeld ⊢
                    refine qA 1 99 (bz 8 2) HT_ ?_
                    refine qA 2 100 (bz 8 6) HT_ ?_
                    refine qA 3 101 (bz 8 14) HT_ ?_
                    refine qC 0 98 (bz 8 15) HT_ HW_ hHeld ?_ (hy := by rintro w' ⟨s0, s1, s2, s3, s4, s5, s6, s7, s8, s9, s10, s11, s12, s13, s14, s15⟩; go_simp; with_reducible rfl)
                    refine qC 4 102 (bz 8 31) HT_ HW_ hHeld ?_ (hy := by rintro w' ⟨s0, s1, s2, s3, s4, s5, s6, s7, s8, s9, s10, s11, s12, s13, s14, s15⟩; go_simp; with_reducible rfl)
                    refine qA 5 103 (bz 8 63) HT_ ?_
                    refine one_ (i := 6) (N := some 104) (bz 8 127) rfl rfl (one_of HT_.out (by kernel_rfl)) (by decide) (fun K hK => ?_)
                    refine goes_ Try.func60 (by kernel_rfl) rfl #[.agg #[.int .i64 a0_4, .int .i64 a0_5, .int .i64 a0_6, .int .i64 a0_7], .int .i64 (l0_11.length : Int)] (by rfl) rfl rfl (by (try simp only [zK, zL, zM]); first | done | rfl | (simp only [zN, zO]; rfl)) ?_
                    with_reducible refine (spec_l12Fits.calls a0_4 a0_5 a0_6 a0_7 (l0_11.length : Int) t207 _ A50.out).mono ?_
                    rintro e w57 ⟨rfl, hb⟩
                    refine ⟨_, rfl, ?_⟩
                    have n0_ := yD (zB (g := g0_0) (o := .cells #[.slice A0_0 l0_0.length c0_0, .slice A0_1 l0_1.length c0_1, .int .i64 a0_2, .bool a0_3, .int .i64 a0_4, .int .i64 a0_5, .int .i64 a0_6, .int .i64 a0_7, .int .i64 a0_8, .int .i64 a0_9, .slice A0_10 l0_10.length c0_10, .slice A0_11 l0_11.length c0_11] 48 (0, 0)) (by (with_reducible repeat (first | refine yM ?_ _ | refine yO ?_ | refine yN ?_ _)); exact BK40.out) hb)
                    have n1_ := yD (zB (g := gb197) (o := .cells #[.int .i64 a0_4, .int .i64 a0_5, .int .i64 a0_6, .int .i64 a0_7] 45 (0, 0)) (by (with_reducible repeat (first | refine yM ?_ _ | refine yO ?_ | refine yN ?_ _)); exact BK197.out) hb)
                    have n2_ := yD (zC (by repeat (first | (with_reducible first | exact HB.out | apply yQ | apply yL | apply yP | refine yE ?_ GE40.out | refine yE ?_ GE197.out) | exact HB.out)) hb)
                    clear BK40 BK197 HB; have BK40 := n0_; have BK197 := n1_; have HB := n2_; clear n0_ n1_ n2_; (try clear hb); (try clear hb2); (try clear hk); (try clear hi)
                    refine hK.out _ _ ⟨(yG BK197.out 0).trans rfl, (yG BK197.out 1).trans rfl, (yG BK197.out 2).trans rfl, (yG BK197.out 3).trans rfl, (yG BK40.out 0).trans rfl, (yG BK40.out 1).trans rfl, (yG BK40.out 2).trans rfl, (yG BK40.out 3).trans rfl, (yG BK40.out 4).trans rfl, (yG BK40.out 5).trans rfl, (yG BK40.out 6).trans rfl, (yG BK40.out 7).trans rfl, (yG BK40.out 8).trans rfl, (yG BK40.out 9).trans rfl, (yG BK40.out 10).trans rfl, (yG BK40.out 11).trans rfl⟩ (fun hHeld => ?_)
                    clear hK K
                    refine norm_ (a' := ?_) ?_ ?_
                    rotate_left
                    · show Act.put _ (some 104) _ = _
                      simp only [Act.put, zH, zI, zJ, i64_w, i32_w]
                      rfl
                    refine qA 7 2 (bz 8 255) HT_ ?_
                    refine done_ (done_of HT_.out (by kernel_rfl)) ?_
                    try go_wp2
                    go_ret
                    exact ⟨by first | rfl | (simp <;> rfl) | (simp [*] <;> rfl), by repeat (first | (with_reducible first | exact HB.out | apply yQ | apply yL | apply yP | refine yE ?_ GE40.out | refine yE ?_ GE197.out) | exact HB.out)⟩
                  · replace c49 := Bool.eq_false_iff.mpr c49
                    subst c49
                    have H1 : (some false) = some r := by rw [if_neg (show ¬ (false = true) by decide)] at H; exact H
                    clear H; have H := H1; clear H1; obtain rfl := Option.some.inj H
                    try go_wp2
                    have n0_ := yD (yO BK40.out)
                    have n1_ := yD (yO BK197.out)
                    have n2_ := yD (yP HB.out)
                    clear BK40 BK197 HB; have BK40 := n0_; have BK197 := n1_; have HB := n2_; clear n0_ n1_ n2_
                    refine start_ (n := 52) (S := fun w' => w'.cell? ⟨g0_0, 0, none⟩ = some (.slice A0_0 l0_0.length c0_0) ∧ w'.cell? ⟨g0_0, 1, none⟩ = some (.slice A0_1 l0_1.length c0_1) ∧ w'.cell? ⟨g0_0, 2, none⟩ = some (.int .i64 a0_2) ∧ w'.cell? ⟨g0_0, 3, none⟩ = some (.bool a0_3) ∧ w'.cell? ⟨g0_0, 4, none⟩ = some (.int .i64 a0_4) ∧ w'.cell? ⟨g0_0, 5, none⟩ = some (.int .i64 a0_5) ∧ w'.cell? ⟨g0_0, 6, none⟩ = some (.int .i64 a0_6) ∧ w'.cell? ⟨g0_0, 7, none⟩ = some (.int .i64 a0_7) ∧ w'.cell? ⟨g0_0, 8, none⟩ = some (.int .i64 a0_8) ∧ w'.cell? ⟨g0_0, 9, none⟩ = some (.int .i64 a0_9) ∧ w'.cell? ⟨g0_0, 10, none⟩ = some (.slice A0_10 l0_10.length c0_10) ∧ w'.cell? ⟨g0_0, 11, none⟩ = some (.slice A0_11 l0_11.length c0_11) ∧ w'.cell? ⟨gb197, 0, none⟩ = some (.int .i64 a0_4) ∧ w'.cell? ⟨gb197, 1, none⟩ = some (.int .i64 a0_5) ∧ w'.cell? ⟨gb197, 2, none⟩ = some (.int .i64 a0_6) ∧ w'.cell? ⟨gb197, 3, none⟩ = some (.int .i64 a0_7)) (ds := []) (bz 52 0) (by kernel_rfl) rfl rfl ⟨(yG BK40.out 0).trans rfl, (yG BK40.out 1).trans rfl, (yG BK40.out 2).trans rfl, (yG BK40.out 3).trans rfl, (yG BK40.out 4).trans rfl, (yG BK40.out 5).trans rfl, (yG BK40.out 6).trans rfl, (yG BK40.out 7).trans rfl, (yG BK40.out 8).trans rfl, (yG BK40.out 9).trans rfl, (yG BK40.out 10).trans rfl, (yG BK40.out 11).trans rfl, (yG BK197.out 0).trans rfl, (yG BK197.out 1).trans rfl, (yG BK197.out 2).trans rfl, (yG BK197.out 3).trans rfl⟩ (fun hHeld => ?_); refine with_tabW spec_l12Ok_c48.tab4 spec_l12Ok_c48.bits4 (fun HT_ HW_ => ?_)
                    generalize wc.drew = w58 at BK40 BK197 HB hHeld ⊢
                    refine qA 0 46 (bz 52 1) HT_ ?_
                    refine qA 1 47 (bz 52 3) HT_ ?_
                    refine qA 2 48 (bz 52 7) HT_ ?_
                    refine qA 4 50 (bz 52 23) HT_ ?_
                    refine qC 3 49 (bz 52 31) HT_ HW_ hHeld ?_ (hy := by rintro w' ⟨s0, s1, s2, s3, s4, s5, s6, s7, s8, s9, s10, s11, s12, s13, s14, s15⟩; go_simp; with_reducible rfl)
                    refine qC 5 51 (bz 52 63) HT_ HW_ hHeld ?_ (hy := by rintro w' ⟨s0, s1, s2, s3, s4, s5, s6, s7, s8, s9, s10, s11, s12, s13, s14, s15⟩; go_simp; with_reducible rfl)
                    refine one_ (i := 6) (N := some 52) (bz 52 127) rfl rfl (one_of HT_.out (by kernel_rfl)) (by decide) (fun K hK => ?_)
                    refine goes_ Try.func44 (by kernel_rfl) rfl #[.int .i64 a0_8, .int .i64 a0_6, .int .i64 1000000000000] (by rfl) rfl rfl (by (try simp only [zK, zL, zM]); first | done | rfl | (simp only [zN, zO]; rfl)) ?_
                    with_reducible refine (spec_l00In.calls a0_8 a0_6 1000000000000 true _ A38.out).mono ?_
                    rintro e w' ⟨rfl, ⟨nd, rfl⟩⟩
                    refine ⟨_, rfl, ?_⟩
                    refine hK.out _ _ ⟨(yG BK40.out 0).trans rfl, (yG BK40.out 1).trans rfl, (yG BK40.out 2).trans rfl, (yG BK40.out 3).trans rfl, (yG BK40.out 4).trans rfl, (yG BK40.out 5).trans rfl, (yG BK40.out 6).trans rfl, (yG BK40.out 7).trans rfl, (yG BK40.out 8).trans rfl, (yG BK40.out 9).trans rfl, (yG BK40.out 10).trans rfl, (yG BK40.out 11).trans rfl, (yG BK197.out 0).trans rfl, (yG BK197.out 1).trans rfl, (yG BK197.out 2).trans rfl, (yG BK197.out 3).trans rfl⟩ (fun hHeld => ?_)
                    clear hK K
                    refine norm_ (a' := ?_) ?_ ?_
                    rotate_left
                    · show Act.put _ (some 52) _ = _
                      simp only [Act.put, zH, zI, zJ, i64_w, i32_w]
                      rfl
                    refine qA 7 53 (bz 52 255) HT_ ?_
                    refine qA 8 54 (bz 52 511) HT_ ?_
                    refine qA 9 55 (bz 52 1023) HT_ ?_
                    refine qA 10 56 (bz 52 2047) HT_ ?_
                    refine qA 11 57 (bz 52 4095) HT_ ?_
                    refine qA 13 59 (bz 52 12287) HT_ ?_
                    refine qC 12 58 (bz 52 16383) HT_ HW_ hHeld ?_ (hy := by rintro w' ⟨s0, s1, s2, s3, s4, s5, s6, s7, s8, s9, s10, s11, s12, s13, s14, s15⟩; go_simp; with_reducible rfl)
                    refine qC 14 60 (bz 52 32767) HT_ HW_ hHeld ?_ (hy := by rintro w' ⟨s0, s1, s2, s3, s4, s5, s6, s7, s8, s9, s10, s11, s12, s13, s14, s15⟩; go_simp; with_reducible rfl)
                    refine one_ (i := 15) (N := some 61) (bz 52 65535) rfl rfl (one_of HT_.out (by kernel_rfl)) (by decide) (fun K hK => ?_)
                    refine goes_ Try.func44 (by kernel_rfl) rfl #[.int .i64 a0_9, .int .i64 0, .int .i64 a0_5] (by rfl) rfl rfl (by (try simp only [zK, zL, zM]); first | done | rfl | (simp only [zN, zO]; rfl)) ?_
                    with_reducible refine (spec_l00In.calls a0_9 0 a0_5 true _ A40.out).mono ?_
                    rintro e w' ⟨rfl, ⟨nd, rfl⟩⟩
                    refine ⟨_, rfl, ?_⟩
                    refine hK.out _ _ ⟨(yG BK40.out 0).trans rfl, (yG BK40.out 1).trans rfl, (yG BK40.out 2).trans rfl, (yG BK40.out 3).trans rfl, (yG BK40.out 4).trans rfl, (yG BK40.out 5).trans rfl, (yG BK40.out 6).trans rfl, (yG BK40.out 7).trans rfl, (yG BK40.out 8).trans rfl, (yG BK40.out 9).trans rfl, (yG BK40.out 10).trans rfl, (yG BK40.out 11).trans rfl, (yG BK197.out 0).trans rfl, (yG BK197.out 1).trans rfl, (yG BK197.out 2).trans rfl, (yG BK197.out 3).trans rfl⟩ (fun hHeld => ?_)
                    clear hK K
                    refine norm_ (a' := ?_) ?_ ?_
                    rotate_left
                    · show Act.put _ (some 61) _ = _
                      simp only [Act.put, zH, zI, zJ, i64_w, i32_w]
                      rfl
                    refine qA 16 62 (bz 52 131071) HT_ ?_
                    refine qA 17 63 (bz 52 262143) HT_ ?_
                    refine qA 18 64 (bz 52 524287) HT_ ?_
                    refine qA 19 65 (bz 52 1048575) HT_ ?_
                    refine qA 20 66 (bz 52 2097151) HT_ ?_
                    refine qA 21 67 (bz 52 4194303) HT_ ?_
                    refine qC 22 68 (bz 52 8388607) HT_ HW_ hHeld ?_ (hy := by rintro w' ⟨s0, s1, s2, s3, s4, s5, s6, s7, s8, s9, s10, s11, s12, s13, s14, s15⟩; go_simp; with_reducible rfl)
                    refine one_ (i := 23) (N := some 69) (bz 52 16777215) rfl rfl (one_of HT_.out (by kernel_rfl)) (by decide) (fun K hK => ?_)
                    refine goes_ Try.func58 (by kernel_rfl) rfl #[.slice A0_10 l0_10.length c0_10] (by rfl) rfl rfl (by (try simp only [zK, zL, zM]); first | done | rfl | (simp only [zN, zO]; rfl)) ?_
                    with_reducible refine (spec_l11Pages.calls kj1 _ _ l0_10 true _ ?side1 ?side2 A42.out).mono ?_
                    (case side1 => repeat (first | exact (yY HR0_10.out (by repeat (first | (with_reducible first | exact HB.out | apply yQ | apply yL | apply yP | refine yE ?_ GE40.out | refine yE ?_ GE197.out) | exact HB.out))) | (with_reducible first | refine yV ?_ _ | refine yW ?_ _ | refine yX ?_)))
                    (case side2 => exact HC0_10.out)
                    rintro e w59 ⟨rfl, hb⟩
                    refine ⟨_, rfl, ?_⟩
                    have n0_ := yD (zB (g := g0_0) (o := .cells #[.slice A0_0 l0_0.length c0_0, .slice A0_1 l0_1.length c0_1, .int .i64 a0_2, .bool a0_3, .int .i64 a0_4, .int .i64 a0_5, .int .i64 a0_6, .int .i64 a0_7, .int .i64 a0_8, .int .i64 a0_9, .slice A0_10 l0_10.length c0_10, .slice A0_11 l0_11.length c0_11] 48 (0, 0)) (by (with_reducible repeat (first | refine yM ?_ _ | refine yO ?_ | refine yN ?_ _)); exact BK40.out) hb)
                    have n1_ := yD (zB (g := gb197) (o := .cells #[.int .i64 a0_4, .int .i64 a0_5, .int .i64 a0_6, .int .i64 a0_7] 45 (0, 0)) (by (with_reducible repeat (first | refine yM ?_ _ | refine yO ?_ | refine yN ?_ _)); exact BK197.out) hb)
                    have n2_ := yD (zC (by repeat (first | (with_reducible first | exact HB.out | apply yQ | apply yL | apply yP | refine yE ?_ GE40.out | refine yE ?_ GE197.out) | exact HB.out)) hb)
                    clear BK40 BK197 HB; have BK40 := n0_; have BK197 := n1_; have HB := n2_; clear n0_ n1_ n2_; (try clear hb); (try clear hb2); (try clear hk); (try clear hi)
                    refine hK.out _ _ ⟨(yG BK40.out 0).trans rfl, (yG BK40.out 1).trans rfl, (yG BK40.out 2).trans rfl, (yG BK40.out 3).trans rfl, (yG BK40.out 4).trans rfl, (yG BK40.out 5).trans rfl, (yG BK40.out 6).trans rfl, (yG BK40.out 7).trans rfl, (yG BK40.out 8).trans rfl, (yG BK40.out 9).trans rfl, (yG BK40.out 10).trans rfl, (yG BK40.out 11).trans rfl, (yG BK197.out 0).trans rfl, (yG BK197.out 1).trans rfl, (yG BK197.out 2).trans rfl, (yG BK197.out 3).trans rfl⟩ (fun hHeld => ?_)
                    clear hK K
                    refine norm_ (a' := ?_) ?_ ?_
                    rotate_left
                    · show Act.put _ (some 69) _ = _
                      simp only [Act.put, zH, zI, zJ, i64_w, i32_w]
                      rfl
                    refine qA 24 70 (bz 52 33554431) HT_ ?_
                    refine qA 25 71 (bz 52 67108863) HT_ ?_
                    refine qA 26 72 (bz 52 134217727) HT_ ?_
                    refine qA 27 73 (bz 52 268435455) HT_ ?_
                    refine qA 28 74 (bz 52 536870911) HT_ ?_
                    refine qA 29 75 (bz 52 1073741823) HT_ ?_
                    refine qC 30 76 (bz 52 2147483647) HT_ HW_ hHeld ?_ (hy := by rintro w' ⟨s0, s1, s2, s3, s4, s5, s6, s7, s8, s9, s10, s11, s12, s13, s14, s15⟩; go_simp; with_reducible rfl)
                    refine one_ (i := 31) (N := some 77) (bz 52 4294967295) rfl rfl (one_of HT_.out (by kernel_rfl)) (by decide) (fun K hK => ?_)
                    refine goes_ Try.func58 (by kernel_rfl) rfl #[.slice A0_11 l0_11.length c0_11] (by rfl) rfl rfl (by (try simp only [zK, zL, zM]); first | done | rfl | (simp only [zN, zO]; rfl)) ?_
                    with_reducible refine (spec_l11Pages.calls kj1 _ _ l0_11 true _ ?side1 ?side2 A44.out).mono ?_
                    (case side1 => repeat (first | exact (yY HR0_11.out HB.out) | (with_reducible first | refine yV ?_ _ | refine yW ?_ _ | refine yX ?_)))
                    (case side2 => exact HC0_11.out)
                    rintro e w60 ⟨rfl, hb⟩
                    refine ⟨_, rfl, ?_⟩
                    have n0_ := yD (zB (g := g0_0) (o := .cells #[.slice A0_0 l0_0.length c0_0, .slice A0_1 l0_1.length c0_1, .int .i64 a0_2, .bool a0_3, .int .i64 a0_4, .int .i64 a0_5, .int .i64 a0_6, .int .i64 a0_7, .int .i64 a0_8, .int .i64 a0_9, .slice A0_10 l0_10.length c0_10, .slice A0_11 l0_11.length c0_11] 48 (0, 0)) (by (with_reducible repeat (first | refine yM ?_ _ | refine yO ?_ | refine yN ?_ _)); exact BK40.out) hb)
                    have n1_ := yD (zB (g := gb197) (o := .cells #[.int .i64 a0_4, .int .i64 a0_5, .int .i64 a0_6, .int .i64 a0_7] 45 (0, 0)) (by (with_reducible repeat (first | refine yM ?_ _ | refine yO ?_ | refine yN ?_ _)); exact BK197.out) hb)
                    have n2_ := yD (zC (by repeat (first | (with_reducible first | exact HB.out | apply yQ | apply yL | apply yP | refine yE ?_ GE40.out | refine yE ?_ GE197.out) | exact HB.out)) hb)
                    clear BK40 BK197 HB; have BK40 := n0_; have BK197 := n1_; have HB := n2_; clear n0_ n1_ n2_; (try clear hb); (try clear hb2); (try clear hk); (try clear hi)
                    refine hK.out _ _ ⟨(yG BK40.out 0).trans rfl, (yG BK40.out 1).trans rfl, (yG BK40.out 2).trans rfl, (yG BK40.out 3).trans rfl, (yG BK40.out 4).trans rfl, (yG BK40.out 5).trans rfl, (yG BK40.out 6).trans rfl, (yG BK40.out 7).trans rfl, (yG BK40.out 8).trans rfl, (yG BK40.out 9).trans rfl, (yG BK40.out 10).trans rfl, (yG BK40.out 11).trans rfl, (yG BK197.out 0).trans rfl, (yG BK197.out 1).trans rfl, (yG BK197.out 2).trans rfl, (yG BK197.out 3).trans rfl⟩ (fun hHeld => ?_)
                    clear hK K
                    refine norm_ (a' := ?_) ?_ ?_
                    rotate_left
                    · show Act.put _ (some 77) _ = _
                      simp only [Act.put, zH, zI, zJ, i64_w, i32_w]
                      rfl
                    refine qA 32 78 (bz 52 8589934591) HT_ ?_
                    refine qA 33 79 (bz 52 17179869183) HT_ ?_
                    refine qA 34 80 (bz 52 34359738367) HT_ ?_
                    refine qA 36 82 (bz 52 103079215103) HT_ ?_
                    refine qA 37 83 (bz 52 240518168575) HT_ ?_
                    refine qA 38 84 (bz 52 515396075519) HT_ ?_
                    refine qC 35 81 (bz 52 549755813887) HT_ HW_ hHeld ?_ (hy := by rintro w' ⟨s0, s1, s2, s3, s4, s5, s6, s7, s8, s9, s10, s11, s12, s13, s14, s15⟩; go_simp; with_reducible rfl)
                    refine qC 39 85 (bz 52 1099511627775) HT_ HW_ hHeld ?_ (hy := by rintro w' ⟨s0, s1, s2, s3, s4, s5, s6, s7, s8, s9, s10, s11, s12, s13, s14, s15⟩; go_simp; with_reducible rfl)
                    refine one_ (i := 40) (N := some 86) (bz 52 2199023255551) rfl rfl (one_of HT_.out (by kernel_rfl)) (by decide) (fun K hK => ?_)
                    refine goes_ Try.func59 (by kernel_rfl) rfl #[.agg #[.int .i64 a0_4, .int .i64 a0_5, .int .i64 a0_6, .int .i64 a0_7], .slice A0_10 l0_10.length c0_10] (by rfl) rfl rfl (by (try simp only [zK, zL, zM]); first | done | rfl | (simp only [zN, zO]; rfl)) ?_
                    with_reducible refine (spec_l11Within.calls kj1 a0_4 a0_5 a0_6 a0_7 _ _ l0_10 true _ ?side1 ?side2 A46.out).mono ?_
                    (case side1 => repeat (first | exact (yY HR0_10.out HB.out) | (with_reducible first | refine yV ?_ _ | refine yW ?_ _ | refine yX ?_)))
                    (case side2 => exact HC0_10.out)
                    rintro e w61 ⟨rfl, hb⟩
                    refine ⟨_, rfl, ?_⟩
                    have n0_ := yD (zB (g := g0_0) (o := .cells #[.slice A0_0 l0_0.length c0_0, .slice A0_1 l0_1.length c0_1, .int .i64 a0_2, .bool a0_3, .int .i64 a0_4, .int .i64 a0_5, .int .i64 a0_6, .int .i64 a0_7, .int .i64 a0_8, .int .i64 a0_9, .slice A0_10 l0_10.length c0_10, .slice A0_11 l0_11.length c0_11] 48 (0, 0)) (by (with_reducible repeat (first | refine yM ?_ _ | refine yO ?_ | refine yN ?_ _)); exact BK40.out) hb)
                    have n1_ := yD (zB (g := gb197) (o := .cells #[.int .i64 a0_4, .int .i64 a0_5, .int .i64 a0_6, .int .i64 a0_7] 45 (0, 0)) (by (with_reducible repeat (first | refine yM ?_ _ | refine yO ?_ | refine yN ?_ _)); exact BK197.out) hb)
                    have n2_ := yD (zC (by repeat (first | (with_reducible first | exact HB.out | apply yQ | apply yL | apply yP | refine yE ?_ GE40.out | refine yE ?_ GE197.out) | exact HB.out)) hb)
                    clear BK40 BK197 HB; have BK40 := n0_; have BK197 := n1_; have HB := n2_; clear n0_ n1_ n2_; (try clear hb); (try clear hb2); (try clear hk); (try clear hi)
                    refine hK.out _ _ ⟨(yG BK40.out 0).trans rfl, (yG BK40.out 1).trans rfl, (yG BK40.out 2).trans rfl, (yG BK40.out 3).trans rfl, (yG BK40.out 4).trans rfl, (yG BK40.out 5).trans rfl, (yG BK40.out 6).trans rfl, (yG BK40.out 7).trans rfl, (yG BK40.out 8).trans rfl, (yG BK40.out 9).trans rfl, (yG BK40.out 10).trans rfl, (yG BK40.out 11).trans rfl, (yG BK197.out 0).trans rfl, (yG BK197.out 1).trans rfl, (yG BK197.out 2).trans rfl, (yG BK197.out 3).trans rfl⟩ (fun hHeld => ?_)
                    clear hK K
                    refine norm_ (a' := ?_) ?_ ?_
                    rotate_left
                    · show Act.put _ (some 86) _ = _
                      simp only [Act.put, zH, zI, zJ, i64_w, i32_w]
                      rfl
                    refine qA 41 87 (bz 52 4398046511103) HT_ ?_
                    refine qA 42 88 (bz 52 8796093022207) HT_ ?_
                    refine qA 43 89 (bz 52 17592186044415) HT_ ?_
                    refine qA 45 91 (bz 52 52776558133247) HT_ ?_
                    refine qA 46 92 (bz 52 123145302310911) HT_ ?_
                    refine qA 47 93 (bz 52 263882790666239) HT_ ?_
                    refine qC 44 90 (bz 52 281474976710655) HT_ HW_ hHeld ?_ (hy := by rintro w' ⟨s0, s1, s2, s3, s4, s5, s6, s7, s8, s9, s10, s11, s12, s13, s14, s15⟩; go_simp; with_reducible rfl)
                    refine qC 48 94 (bz 52 562949953421311) HT_ HW_ hHeld ?_ (hy := by rintro w' ⟨s0, s1, s2, s3, s4, s5, s6, s7, s8, s9, s10, s11, s12, s13, s14, s15⟩; go_simp; with_reducible rfl)
                    refine one_ (i := 49) (N := some 95) (bz 52 1125899906842623) rfl rfl (one_of HT_.out (by kernel_rfl)) (by decide) (fun K hK => ?_)
                    refine goes_ Try.func59 (by kernel_rfl) rfl #[.agg #[.int .i64 a0_4, .int .i64 a0_5, .int .i64 a0_6, .int .i64 a0_7], .slice A0_11 l0_11.length c0_11] (by rfl) rfl rfl (by (try simp only [zK, zL, zM]); first | done | rfl | (simp only [zN, zO]; rfl)) ?_
                    with_reducible refine (spec_l11Within.calls kj1 a0_4 a0_5 a0_6 a0_7 _ _ l0_11 false _ ?side1 ?side2 A48.out).mono ?_
                    (case side1 => repeat (first | exact (yY HR0_11.out HB.out) | (with_reducible first | refine yV ?_ _ | refine yW ?_ _ | refine yX ?_)))
                    (case side2 => exact HC0_11.out)
                    rintro e w62 ⟨rfl, hb⟩
                    refine ⟨_, rfl, ?_⟩
                    have n0_ := yD (zB (g := g0_0) (o := .cells #[.slice A0_0 l0_0.length c0_0, .slice A0_1 l0_1.length c0_1, .int .i64 a0_2, .bool a0_3, .int .i64 a0_4, .int .i64 a0_5, .int .i64 a0_6, .int .i64 a0_7, .int .i64 a0_8, .int .i64 a0_9, .slice A0_10 l0_10.length c0_10, .slice A0_11 l0_11.length c0_11] 48 (0, 0)) (by (with_reducible repeat (first | refine yM ?_ _ | refine yO ?_ | refine yN ?_ _)); exact BK40.out) hb)
                    have n1_ := yD (zB (g := gb197) (o := .cells #[.int .i64 a0_4, .int .i64 a0_5, .int .i64 a0_6, .int .i64 a0_7] 45 (0, 0)) (by (with_reducible repeat (first | refine yM ?_ _ | refine yO ?_ | refine yN ?_ _)); exact BK197.out) hb)
                    have n2_ := yD (zC (by repeat (first | (with_reducible first | exact HB.out | apply yQ | apply yL | apply yP | refine yE ?_ GE40.out | refine yE ?_ GE197.out) | exact HB.out)) hb)
                    clear BK40 BK197 HB; have BK40 := n0_; have BK197 := n1_; have HB := n2_; clear n0_ n1_ n2_; (try clear hb); (try clear hb2); (try clear hk); (try clear hi)
                    refine hK.out _ _ ⟨(yG BK40.out 0).trans rfl, (yG BK40.out 1).trans rfl, (yG BK40.out 2).trans rfl, (yG BK40.out 3).trans rfl, (yG BK40.out 4).trans rfl, (yG BK40.out 5).trans rfl, (yG BK40.out 6).trans rfl, (yG BK40.out 7).trans rfl, (yG BK40.out 8).trans rfl, (yG BK40.out 9).trans rfl, (yG BK40.out 10).trans rfl, (yG BK40.out 11).trans rfl, (yG BK197.out 0).trans rfl, (yG BK197.out 1).trans rfl, (yG BK197.out 2).trans rfl, (yG BK197.out 3).trans rfl⟩ (fun hHeld => ?_)
                    clear hK K
                    refine norm_ (a' := ?_) ?_ ?_
                    rotate_left
                    · show Act.put _ (some 95) _ = _
                      simp only [Act.put, zH, zI, zJ, i64_w, i32_w]
                      rfl
                    refine qA 50 96 (bz 52 2251799813685247) HT_ ?_
                    refine qA 51 97 (bz 52 4503599627370495) HT_ ?_
                    refine done_ (done_of HT_.out (by kernel_rfl)) ?_
                    try go_wp2
                    go_ret
                    exact ⟨by first | rfl | (simp <;> rfl) | (simp [*] <;> rfl), by repeat (first | (with_reducible first | exact HB.out | apply yQ | apply yL | apply yP | refine yE ?_ GE40.out | refine yE ?_ GE197.out) | exact HB.out)⟩
                · replace c47 := Bool.eq_false_iff.mpr c47
                  subst c47
                  have H1 : (some false) = some r := by rw [if_neg (show ¬ (false = true) by decide)] at H; exact H
                  clear H; have H := H1; clear H1; obtain rfl := Option.some.inj H
                  try go_wp2
                  have n0_ := yD (yO BK40.out)
                  have n1_ := yD (yO BK197.out)
                  have n2_ := yD (yP HB.out)
                  clear BK40 BK197 HB; have BK40 := n0_; have BK197 := n1_; have HB := n2_; clear n0_ n1_ n2_
                  refine start_ (n := 52) (S := fun w' => w'.cell? ⟨g0_0, 0, none⟩ = some (.slice A0_0 l0_0.length c0_0) ∧ w'.cell? ⟨g0_0, 1, none⟩ = some (.slice A0_1 l0_1.length c0_1) ∧ w'.cell? ⟨g0_0, 2, none⟩ = some (.int .i64 a0_2) ∧ w'.cell? ⟨g0_0, 3, none⟩ = some (.bool a0_3) ∧ w'.cell? ⟨g0_0, 4, none⟩ = some (.int .i64 a0_4) ∧ w'.cell? ⟨g0_0, 5, none⟩ = some (.int .i64 a0_5) ∧ w'.cell? ⟨g0_0, 6, none⟩ = some (.int .i64 a0_6) ∧ w'.cell? ⟨g0_0, 7, none⟩ = some (.int .i64 a0_7) ∧ w'.cell? ⟨g0_0, 8, none⟩ = some (.int .i64 a0_8) ∧ w'.cell? ⟨g0_0, 9, none⟩ = some (.int .i64 a0_9) ∧ w'.cell? ⟨g0_0, 10, none⟩ = some (.slice A0_10 l0_10.length c0_10) ∧ w'.cell? ⟨g0_0, 11, none⟩ = some (.slice A0_11 l0_11.length c0_11) ∧ w'.cell? ⟨gb197, 0, none⟩ = some (.int .i64 a0_4) ∧ w'.cell? ⟨gb197, 1, none⟩ = some (.int .i64 a0_5) ∧ w'.cell? ⟨gb197, 2, none⟩ = some (.int .i64 a0_6) ∧ w'.cell? ⟨gb197, 3, none⟩ = some (.int .i64 a0_7)) (ds := []) (bz 52 0) (by kernel_rfl) rfl rfl ⟨(yG BK40.out 0).trans rfl, (yG BK40.out 1).trans rfl, (yG BK40.out 2).trans rfl, (yG BK40.out 3).trans rfl, (yG BK40.out 4).trans rfl, (yG BK40.out 5).trans rfl, (yG BK40.out 6).trans rfl, (yG BK40.out 7).trans rfl, (yG BK40.out 8).trans rfl, (yG BK40.out 9).trans rfl, (yG BK40.out 10).trans rfl, (yG BK40.out 11).trans rfl, (yG BK197.out 0).trans rfl, (yG BK197.out 1).trans rfl, (yG BK197.out 2).trans rfl, (yG BK197.out 3).trans rfl⟩ (fun hHeld => ?_); refine with_tabW spec_l12Ok_c48.tab4 spec_l12Ok_c48.bits4 (fun HT_ HW_ => ?_)
                  generalize wc.drew = w63 at BK40 BK197 HB hHeld ⊢
                  refine qA 0 46 (bz 52 1) HT_ ?_
                  refine qA 1 47 (bz 52 3) HT_ ?_
                  refine qA 2 48 (bz 52 7) HT_ ?_
                  refine qA 4 50 (bz 52 23) HT_ ?_
                  refine qC 3 49 (bz 52 31) HT_ HW_ hHeld ?_ (hy := by rintro w' ⟨s0, s1, s2, s3, s4, s5, s6, s7, s8, s9, s10, s11, s12, s13, s14, s15⟩; go_simp; with_reducible rfl)
                  refine qC 5 51 (bz 52 63) HT_ HW_ hHeld ?_ (hy := by rintro w' ⟨s0, s1, s2, s3, s4, s5, s6, s7, s8, s9, s10, s11, s12, s13, s14, s15⟩; go_simp; with_reducible rfl)
                  refine one_ (i := 6) (N := some 52) (bz 52 127) rfl rfl (one_of HT_.out (by kernel_rfl)) (by decide) (fun K hK => ?_)
                  refine goes_ Try.func44 (by kernel_rfl) rfl #[.int .i64 a0_8, .int .i64 a0_6, .int .i64 1000000000000] (by rfl) rfl rfl (by (try simp only [zK, zL, zM]); first | done | rfl | (simp only [zN, zO]; rfl)) ?_
                  with_reducible refine (spec_l00In.calls a0_8 a0_6 1000000000000 true _ A38.out).mono ?_
                  rintro e w' ⟨rfl, ⟨nd, rfl⟩⟩
                  refine ⟨_, rfl, ?_⟩
                  refine hK.out _ _ ⟨(yG BK40.out 0).trans rfl, (yG BK40.out 1).trans rfl, (yG BK40.out 2).trans rfl, (yG BK40.out 3).trans rfl, (yG BK40.out 4).trans rfl, (yG BK40.out 5).trans rfl, (yG BK40.out 6).trans rfl, (yG BK40.out 7).trans rfl, (yG BK40.out 8).trans rfl, (yG BK40.out 9).trans rfl, (yG BK40.out 10).trans rfl, (yG BK40.out 11).trans rfl, (yG BK197.out 0).trans rfl, (yG BK197.out 1).trans rfl, (yG BK197.out 2).trans rfl, (yG BK197.out 3).trans rfl⟩ (fun hHeld => ?_)
                  clear hK K
                  refine norm_ (a' := ?_) ?_ ?_
                  rotate_left
                  · show Act.put _ (some 52) _ = _
                    simp only [Act.put, zH, zI, zJ, i64_w, i32_w]
                    rfl
                  refine qA 7 53 (bz 52 255) HT_ ?_
                  refine qA 8 54 (bz 52 511) HT_ ?_
                  refine qA 9 55 (bz 52 1023) HT_ ?_
                  refine qA 10 56 (bz 52 2047) HT_ ?_
                  refine qA 11 57 (bz 52 4095) HT_ ?_
                  refine qA 13 59 (bz 52 12287) HT_ ?_
                  refine qC 12 58 (bz 52 16383) HT_ HW_ hHeld ?_ (hy := by rintro w' ⟨s0, s1, s2, s3, s4, s5, s6, s7, s8, s9, s10, s11, s12, s13, s14, s15⟩; go_simp; with_reducible rfl)
                  refine qC 14 60 (bz 52 32767) HT_ HW_ hHeld ?_ (hy := by rintro w' ⟨s0, s1, s2, s3, s4, s5, s6, s7, s8, s9, s10, s11, s12, s13, s14, s15⟩; go_simp; with_reducible rfl)
                  refine one_ (i := 15) (N := some 61) (bz 52 65535) rfl rfl (one_of HT_.out (by kernel_rfl)) (by decide) (fun K hK => ?_)
                  refine goes_ Try.func44 (by kernel_rfl) rfl #[.int .i64 a0_9, .int .i64 0, .int .i64 a0_5] (by rfl) rfl rfl (by (try simp only [zK, zL, zM]); first | done | rfl | (simp only [zN, zO]; rfl)) ?_
                  with_reducible refine (spec_l00In.calls a0_9 0 a0_5 true _ A40.out).mono ?_
                  rintro e w' ⟨rfl, ⟨nd, rfl⟩⟩
                  refine ⟨_, rfl, ?_⟩
                  refine hK.out _ _ ⟨(yG BK40.out 0).trans rfl, (yG BK40.out 1).trans rfl, (yG BK40.out 2).trans rfl, (yG BK40.out 3).trans rfl, (yG BK40.out 4).trans rfl, (yG BK40.out 5).trans rfl, (yG BK40.out 6).trans rfl, (yG BK40.out 7).trans rfl, (yG BK40.out 8).trans rfl, (yG BK40.out 9).trans rfl, (yG BK40.out 10).trans rfl, (yG BK40.out 11).trans rfl, (yG BK197.out 0).trans rfl, (yG BK197.out 1).trans rfl, (yG BK197.out 2).trans rfl, (yG BK197.out 3).trans rfl⟩ (fun hHeld => ?_)
                  clear hK K
                  refine norm_ (a' := ?_) ?_ ?_
                  rotate_left
                  · show Act.put _ (some 61) _ = _
                    simp only [Act.put, zH, zI, zJ, i64_w, i32_w]
                    rfl
                  refine qA 16 62 (bz 52 131071) HT_ ?_
                  refine qA 17 63 (bz 52 262143) HT_ ?_
                  refine qA 18 64 (bz 52 524287) HT_ ?_
                  refine qA 19 65 (bz 52 1048575) HT_ ?_
                  refine qA 20 66 (bz 52 2097151) HT_ ?_
                  refine qA 21 67 (bz 52 4194303) HT_ ?_
                  refine qC 22 68 (bz 52 8388607) HT_ HW_ hHeld ?_ (hy := by rintro w' ⟨s0, s1, s2, s3, s4, s5, s6, s7, s8, s9, s10, s11, s12, s13, s14, s15⟩; go_simp; with_reducible rfl)
                  refine one_ (i := 23) (N := some 69) (bz 52 16777215) rfl rfl (one_of HT_.out (by kernel_rfl)) (by decide) (fun K hK => ?_)
                  refine goes_ Try.func58 (by kernel_rfl) rfl #[.slice A0_10 l0_10.length c0_10] (by rfl) rfl rfl (by (try simp only [zK, zL, zM]); first | done | rfl | (simp only [zN, zO]; rfl)) ?_
                  with_reducible refine (spec_l11Pages.calls kj1 _ _ l0_10 true _ ?side1 ?side2 A42.out).mono ?_
                  (case side1 => repeat (first | exact (yY HR0_10.out (by repeat (first | (with_reducible first | exact HB.out | apply yQ | apply yL | apply yP | refine yE ?_ GE40.out | refine yE ?_ GE197.out) | exact HB.out))) | (with_reducible first | refine yV ?_ _ | refine yW ?_ _ | refine yX ?_)))
                  (case side2 => exact HC0_10.out)
                  rintro e w64 ⟨rfl, hb⟩
                  refine ⟨_, rfl, ?_⟩
                  have n0_ := yD (zB (g := g0_0) (o := .cells #[.slice A0_0 l0_0.length c0_0, .slice A0_1 l0_1.length c0_1, .int .i64 a0_2, .bool a0_3, .int .i64 a0_4, .int .i64 a0_5, .int .i64 a0_6, .int .i64 a0_7, .int .i64 a0_8, .int .i64 a0_9, .slice A0_10 l0_10.length c0_10, .slice A0_11 l0_11.length c0_11] 48 (0, 0)) (by (with_reducible repeat (first | refine yM ?_ _ | refine yO ?_ | refine yN ?_ _)); exact BK40.out) hb)
                  have n1_ := yD (zB (g := gb197) (o := .cells #[.int .i64 a0_4, .int .i64 a0_5, .int .i64 a0_6, .int .i64 a0_7] 45 (0, 0)) (by (with_reducible repeat (first | refine yM ?_ _ | refine yO ?_ | refine yN ?_ _)); exact BK197.out) hb)
                  have n2_ := yD (zC (by repeat (first | (with_reducible first | exact HB.out | apply yQ | apply yL | apply yP | refine yE ?_ GE40.out | refine yE ?_ GE197.out) | exact HB.out)) hb)
                  clear BK40 BK197 HB; have BK40 := n0_; have BK197 := n1_; have HB := n2_; clear n0_ n1_ n2_; (try clear hb); (try clear hb2); (try clear hk); (try clear hi)
                  refine hK.out _ _ ⟨(yG BK40.out 0).trans rfl, (yG BK40.out 1).trans rfl, (yG BK40.out 2).trans rfl, (yG BK40.out 3).trans rfl, (yG BK40.out 4).trans rfl, (yG BK40.out 5).trans rfl, (yG BK40.out 6).trans rfl, (yG BK40.out 7).trans rfl, (yG BK40.out 8).trans rfl, (yG BK40.out 9).trans rfl, (yG BK40.out 10).trans rfl, (yG BK40.out 11).trans rfl, (yG BK197.out 0).trans rfl, (yG BK197.out 1).trans rfl, (yG BK197.out 2).trans rfl, (yG BK197.out 3).trans rfl⟩ (fun hHeld => ?_)
                  clear hK K
                  refine norm_ (a' := ?_) ?_ ?_
                  rotate_left
                  · show Act.put _ (some 69) _ = _
                    simp only [Act.put, zH, zI, zJ, i64_w, i32_w]
                    rfl
                  refine qA 24 70 (bz 52 33554431) HT_ ?_
                  refine qA 25 71 (bz 52 67108863) HT_ ?_
                  refine qA 26 72 (bz 52 134217727) HT_ ?_
                  refine qA 27 73 (bz 52 268435455) HT_ ?_
                  refine qA 28 74 (bz 52 536870911) HT_ ?_
                  refine qA 29 75 (bz 52 1073741823) HT_ ?_
                  refine qC 30 76 (bz 52 2147483647) HT_ HW_ hHeld ?_ (hy := by rintro w' ⟨s0, s1, s2, s3, s4, s5, s6, s7, s8, s9, s10, s11, s12, s13, s14, s15⟩; go_simp; with_reducible rfl)
                  refine one_ (i := 31) (N := some 77) (bz 52 4294967295) rfl rfl (one_of HT_.out (by kernel_rfl)) (by decide) (fun K hK => ?_)
                  refine goes_ Try.func58 (by kernel_rfl) rfl #[.slice A0_11 l0_11.length c0_11] (by rfl) rfl rfl (by (try simp only [zK, zL, zM]); first | done | rfl | (simp only [zN, zO]; rfl)) ?_
                  with_reducible refine (spec_l11Pages.calls kj1 _ _ l0_11 true _ ?side1 ?side2 A44.out).mono ?_
                  (case side1 => repeat (first | exact (yY HR0_11.out HB.out) | (with_reducible first | refine yV ?_ _ | refine yW ?_ _ | refine yX ?_)))
                  (case side2 => exact HC0_11.out)
                  rintro e w65 ⟨rfl, hb⟩
                  refine ⟨_, rfl, ?_⟩
                  have n0_ := yD (zB (g := g0_0) (o := .cells #[.slice A0_0 l0_0.length c0_0, .slice A0_1 l0_1.length c0_1, .int .i64 a0_2, .bool a0_3, .int .i64 a0_4, .int .i64 a0_5, .int .i64 a0_6, .int .i64 a0_7, .int .i64 a0_8, .int .i64 a0_9, .slice A0_10 l0_10.length c0_10, .slice A0_11 l0_11.length c0_11] 48 (0, 0)) (by (with_reducible repeat (first | refine yM ?_ _ | refine yO ?_ | refine yN ?_ _)); exact BK40.out) hb)
                  have n1_ := yD (zB (g := gb197) (o := .cells #[.int .i64 a0_4, .int .i64 a0_5, .int .i64 a0_6, .int .i64 a0_7] 45 (0, 0)) (by (with_reducible repeat (first | refine yM ?_ _ | refine yO ?_ | refine yN ?_ _)); exact BK197.out) hb)
                  have n2_ := yD (zC (by repeat (first | (with_reducible first | exact HB.out | apply yQ | apply yL | apply yP | refine yE ?_ GE40.out | refine yE ?_ GE197.out) | exact HB.out)) hb)
                  clear BK40 BK197 HB; have BK40 := n0_; have BK197 := n1_; have HB := n2_; clear n0_ n1_ n2_; (try clear hb); (try clear hb2); (try clear hk); (try clear hi)
                  refine hK.out _ _ ⟨(yG BK40.out 0).trans rfl, (yG BK40.out 1).trans rfl, (yG BK40.out 2).trans rfl, (yG BK40.out 3).trans rfl, (yG BK40.out 4).trans rfl, (yG BK40.out 5).trans rfl, (yG BK40.out 6).trans rfl, (yG BK40.out 7).trans rfl, (yG BK40.out 8).trans rfl, (yG BK40.out 9).trans rfl, (yG BK40.out 10).trans rfl, (yG BK40.out 11).trans rfl, (yG BK197.out 0).trans rfl, (yG BK197.out 1).trans rfl, (yG BK197.out 2).trans rfl, (yG BK197.out 3).trans rfl⟩ (fun hHeld => ?_)
                  clear hK K
                  refine norm_ (a' := ?_) ?_ ?_
                  rotate_left
                  · show Act.put _ (some 77) _ = _
                    simp only [Act.put, zH, zI, zJ, i64_w, i32_w]
                    rfl
                  refine qA 32 78 (bz 52 8589934591) HT_ ?_
                  refine qA 33 79 (bz 52 17179869183) HT_ ?_
                  refine qA 34 80 (bz 52 34359738367) HT_ ?_
                  refine qA 36 82 (bz 52 103079215103) HT_ ?_
                  refine qA 37 83 (bz 52 240518168575) HT_ ?_
                  refine qA 38 84 (bz 52 515396075519) HT_ ?_
                  refine qC 35 81 (bz 52 549755813887) HT_ HW_ hHeld ?_ (hy := by rintro w' ⟨s0, s1, s2, s3, s4, s5, s6, s7, s8, s9, s10, s11, s12, s13, s14, s15⟩; go_simp; with_reducible rfl)
                  refine qC 39 85 (bz 52 1099511627775) HT_ HW_ hHeld ?_ (hy := by rintro w' ⟨s0, s1, s2, s3, s4, s5, s6, s7, s8, s9, s10, s11, s12, s13, s14, s15⟩; go_simp; with_reducible rfl)
                  refine one_ (i := 40) (N := some 86) (bz 52 2199023255551) rfl rfl (one_of HT_.out (by kernel_rfl)) (by decide) (fun K hK => ?_)
                  refine goes_ Try.func59 (by kernel_rfl) rfl #[.agg #[.int .i64 a0_4, .int .i64 a0_5, .int .i64 a0_6, .int .i64 a0_7], .slice A0_10 l0_10.length c0_10] (by rfl) rfl rfl (by (try simp only [zK, zL, zM]); first | done | rfl | (simp only [zN, zO]; rfl)) ?_
                  with_reducible refine (spec_l11Within.calls kj1 a0_4 a0_5 a0_6 a0_7 _ _ l0_10 false _ ?side1 ?side2 A46.out).mono ?_
                  (case side1 => repeat (first | exact (yY HR0_10.out HB.out) | (with_reducible first | refine yV ?_ _ | refine yW ?_ _ | refine yX ?_)))
                  (case side2 => exact HC0_10.out)
                  rintro e w66 ⟨rfl, hb⟩
                  refine ⟨_, rfl, ?_⟩
                  have n0_ := yD (zB (g := g0_0) (o := .cells #[.slice A0_0 l0_0.length c0_0, .slice A0_1 l0_1.length c0_1, .int .i64 a0_2, .bool a0_3, .int .i64 a0_4, .int .i64 a0_5, .int .i64 a0_6, .int .i64 a0_7, .int .i64 a0_8, .int .i64 a0_9, .slice A0_10 l0_10.length c0_10, .slice A0_11 l0_11.length c0_11] 48 (0, 0)) (by (with_reducible repeat (first | refine yM ?_ _ | refine yO ?_ | refine yN ?_ _)); exact BK40.out) hb)
                  have n1_ := yD (zB (g := gb197) (o := .cells #[.int .i64 a0_4, .int .i64 a0_5, .int .i64 a0_6, .int .i64 a0_7] 45 (0, 0)) (by (with_reducible repeat (first | refine yM ?_ _ | refine yO ?_ | refine yN ?_ _)); exact BK197.out) hb)
                  have n2_ := yD (zC (by repeat (first | (with_reducible first | exact HB.out | apply yQ | apply yL | apply yP | refine yE ?_ GE40.out | refine yE ?_ GE197.out) | exact HB.out)) hb)
                  clear BK40 BK197 HB; have BK40 := n0_; have BK197 := n1_; have HB := n2_; clear n0_ n1_ n2_; (try clear hb); (try clear hb2); (try clear hk); (try clear hi)
                  refine hK.out _ _ ⟨(yG BK40.out 0).trans rfl, (yG BK40.out 1).trans rfl, (yG BK40.out 2).trans rfl, (yG BK40.out 3).trans rfl, (yG BK40.out 4).trans rfl, (yG BK40.out 5).trans rfl, (yG BK40.out 6).trans rfl, (yG BK40.out 7).trans rfl, (yG BK40.out 8).trans rfl, (yG BK40.out 9).trans rfl, (yG BK40.out 10).trans rfl, (yG BK40.out 11).trans rfl, (yG BK197.out 0).trans rfl, (yG BK197.out 1).trans rfl, (yG BK197.out 2).trans rfl, (yG BK197.out 3).trans rfl⟩ (fun hHeld => ?_)
                  clear hK K
                  refine norm_ (a' := ?_) ?_ ?_
                  rotate_left
                  · show Act.put _ (some 86) _ = _
                    simp only [Act.put, zH, zI, zJ, i64_w, i32_w]
                    rfl
                  refine qA 41 87 (bz 52 4398046511103) HT_ ?_
                  refine qA 42 88 (bz 52 8796093022207) HT_ ?_
                  refine qA 43 89 (bz 52 17592186044415) HT_ ?_
                  refine qB 44 90 (bz 52 35184372088831) HT_ ?_
                  refine qB 45 91 (bz 52 70368744177663) HT_ ?_
                  refine qB 46 92 (bz 52 140737488355327) HT_ ?_
                  refine qB 47 93 (bz 52 281474976710655) HT_ ?_
                  refine qB 48 94 (bz 52 562949953421311) HT_ ?_
                  refine qB 49 95 (bz 52 1125899906842623) HT_ ?_
                  refine qB 50 96 (bz 52 2251799813685247) HT_ ?_
                  refine qA 51 97 (bz 52 4503599627370495) HT_ ?_
                  refine done_ (done_of HT_.out (by kernel_rfl)) ?_
                  try go_wp2
                  go_ret
                  exact ⟨by first | rfl | (simp <;> rfl) | (simp [*] <;> rfl), by repeat (first | (with_reducible first | exact HB.out | apply yQ | apply yL | apply yP | refine yE ?_ GE40.out | refine yE ?_ GE197.out) | exact HB.out)⟩
              · replace c45 := Bool.eq_false_iff.mpr c45
                subst c45
                have H1 : (some false) = some r := by rw [if_neg (show ¬ (false = true) by decide)] at H; exact H
                clear H; have H := H1; clear H1; obtain rfl := Option.some.inj H
                try go_wp2
                have n0_ := yD (yO BK40.out)
                have n1_ := yD (yO BK197.out)
                have n2_ := yD (yP HB.out)
                clear BK40 BK197 HB; have BK40 := n0_; have BK197 := n1_; have HB := n2_; clear n0_ n1_ n2_
                refine start_ (n := 52) (S := fun w' => w'.cell? ⟨g0_0, 0, none⟩ = some (.slice A0_0 l0_0.length c0_0) ∧ w'.cell? ⟨g0_0, 1, none⟩ = some (.slice A0_1 l0_1.length c0_1) ∧ w'.cell? ⟨g0_0, 2, none⟩ = some (.int .i64 a0_2) ∧ w'.cell? ⟨g0_0, 3, none⟩ = some (.bool a0_3) ∧ w'.cell? ⟨g0_0, 4, none⟩ = some (.int .i64 a0_4) ∧ w'.cell? ⟨g0_0, 5, none⟩ = some (.int .i64 a0_5) ∧ w'.cell? ⟨g0_0, 6, none⟩ = some (.int .i64 a0_6) ∧ w'.cell? ⟨g0_0, 7, none⟩ = some (.int .i64 a0_7) ∧ w'.cell? ⟨g0_0, 8, none⟩ = some (.int .i64 a0_8) ∧ w'.cell? ⟨g0_0, 9, none⟩ = some (.int .i64 a0_9) ∧ w'.cell? ⟨g0_0, 10, none⟩ = some (.slice A0_10 l0_10.length c0_10) ∧ w'.cell? ⟨g0_0, 11, none⟩ = some (.slice A0_11 l0_11.length c0_11) ∧ w'.cell? ⟨gb197, 0, none⟩ = some (.int .i64 a0_4) ∧ w'.cell? ⟨gb197, 1, none⟩ = some (.int .i64 a0_5) ∧ w'.cell? ⟨gb197, 2, none⟩ = some (.int .i64 a0_6) ∧ w'.cell? ⟨gb197, 3, none⟩ = some (.int .i64 a0_7)) (ds := []) (bz 52 0) (by kernel_rfl) rfl rfl ⟨(yG BK40.out 0).trans rfl, (yG BK40.out 1).trans rfl, (yG BK40.out 2).trans rfl, (yG BK40.out 3).trans rfl, (yG BK40.out 4).trans rfl, (yG BK40.out 5).trans rfl, (yG BK40.out 6).trans rfl, (yG BK40.out 7).trans rfl, (yG BK40.out 8).trans rfl, (yG BK40.out 9).trans rfl, (yG BK40.out 10).trans rfl, (yG BK40.out 11).trans rfl, (yG BK197.out 0).trans rfl, (yG BK197.out 1).trans rfl, (yG BK197.out 2).trans rfl, (yG BK197.out 3).trans rfl⟩ (fun hHeld => ?_); refine with_tabW spec_l12Ok_c48.tab4 spec_l12Ok_c48.bits4 (fun HT_ HW_ => ?_)
                generalize wc.drew = w67 at BK40 BK197 HB hHeld ⊢
                refine qA 0 46 (bz 52 1) HT_ ?_
                refine qA 1 47 (bz 52 3) HT_ ?_
                refine qA 2 48 (bz 52 7) HT_ ?_
                refine qA 4 50 (bz 52 23) HT_ ?_
                refine qC 3 49 (bz 52 31) HT_ HW_ hHeld ?_ (hy := by rintro w' ⟨s0, s1, s2, s3, s4, s5, s6, s7, s8, s9, s10, s11, s12, s13, s14, s15⟩; go_simp; with_reducible rfl)
                refine qC 5 51 (bz 52 63) HT_ HW_ hHeld ?_ (hy := by rintro w' ⟨s0, s1, s2, s3, s4, s5, s6, s7, s8, s9, s10, s11, s12, s13, s14, s15⟩; go_simp; with_reducible rfl)
                refine one_ (i := 6) (N := some 52) (bz 52 127) rfl rfl (one_of HT_.out (by kernel_rfl)) (by decide) (fun K hK => ?_)
                refine goes_ Try.func44 (by kernel_rfl) rfl #[.int .i64 a0_8, .int .i64 a0_6, .int .i64 1000000000000] (by rfl) rfl rfl (by (try simp only [zK, zL, zM]); first | done | rfl | (simp only [zN, zO]; rfl)) ?_
                with_reducible refine (spec_l00In.calls a0_8 a0_6 1000000000000 true _ A38.out).mono ?_
                rintro e w' ⟨rfl, ⟨nd, rfl⟩⟩
                refine ⟨_, rfl, ?_⟩
                refine hK.out _ _ ⟨(yG BK40.out 0).trans rfl, (yG BK40.out 1).trans rfl, (yG BK40.out 2).trans rfl, (yG BK40.out 3).trans rfl, (yG BK40.out 4).trans rfl, (yG BK40.out 5).trans rfl, (yG BK40.out 6).trans rfl, (yG BK40.out 7).trans rfl, (yG BK40.out 8).trans rfl, (yG BK40.out 9).trans rfl, (yG BK40.out 10).trans rfl, (yG BK40.out 11).trans rfl, (yG BK197.out 0).trans rfl, (yG BK197.out 1).trans rfl, (yG BK197.out 2).trans rfl, (yG BK197.out 3).trans rfl⟩ (fun hHeld => ?_)
                clear hK K
                refine norm_ (a' := ?_) ?_ ?_
                rotate_left
                · show Act.put _ (some 52) _ = _
                  simp only [Act.put, zH, zI, zJ, i64_w, i32_w]
                  rfl
                refine qA 7 53 (bz 52 255) HT_ ?_
                refine qA 8 54 (bz 52 511) HT_ ?_
                refine qA 9 55 (bz 52 1023) HT_ ?_
                refine qA 10 56 (bz 52 2047) HT_ ?_
                refine qA 11 57 (bz 52 4095) HT_ ?_
                refine qA 13 59 (bz 52 12287) HT_ ?_
                refine qC 12 58 (bz 52 16383) HT_ HW_ hHeld ?_ (hy := by rintro w' ⟨s0, s1, s2, s3, s4, s5, s6, s7, s8, s9, s10, s11, s12, s13, s14, s15⟩; go_simp; with_reducible rfl)
                refine qC 14 60 (bz 52 32767) HT_ HW_ hHeld ?_ (hy := by rintro w' ⟨s0, s1, s2, s3, s4, s5, s6, s7, s8, s9, s10, s11, s12, s13, s14, s15⟩; go_simp; with_reducible rfl)
                refine one_ (i := 15) (N := some 61) (bz 52 65535) rfl rfl (one_of HT_.out (by kernel_rfl)) (by decide) (fun K hK => ?_)
                refine goes_ Try.func44 (by kernel_rfl) rfl #[.int .i64 a0_9, .int .i64 0, .int .i64 a0_5] (by rfl) rfl rfl (by (try simp only [zK, zL, zM]); first | done | rfl | (simp only [zN, zO]; rfl)) ?_
                with_reducible refine (spec_l00In.calls a0_9 0 a0_5 true _ A40.out).mono ?_
                rintro e w' ⟨rfl, ⟨nd, rfl⟩⟩
                refine ⟨_, rfl, ?_⟩
                refine hK.out _ _ ⟨(yG BK40.out 0).trans rfl, (yG BK40.out 1).trans rfl, (yG BK40.out 2).trans rfl, (yG BK40.out 3).trans rfl, (yG BK40.out 4).trans rfl, (yG BK40.out 5).trans rfl, (yG BK40.out 6).trans rfl, (yG BK40.out 7).trans rfl, (yG BK40.out 8).trans rfl, (yG BK40.out 9).trans rfl, (yG BK40.out 10).trans rfl, (yG BK40.out 11).trans rfl, (yG BK197.out 0).trans rfl, (yG BK197.out 1).trans rfl, (yG BK197.out 2).trans rfl, (yG BK197.out 3).trans rfl⟩ (fun hHeld => ?_)
                clear hK K
                refine norm_ (a' := ?_) ?_ ?_
                rotate_left
                · show Act.put _ (some 61) _ = _
                  simp only [Act.put, zH, zI, zJ, i64_w, i32_w]
                  rfl
                refine qA 16 62 (bz 52 131071) HT_ ?_
                refine qA 17 63 (bz 52 262143) HT_ ?_
                refine qA 18 64 (bz 52 524287) HT_ ?_
                refine qA 19 65 (bz 52 1048575) HT_ ?_
                refine qA 20 66 (bz 52 2097151) HT_ ?_
                refine qA 21 67 (bz 52 4194303) HT_ ?_
                refine qC 22 68 (bz 52 8388607) HT_ HW_ hHeld ?_ (hy := by rintro w' ⟨s0, s1, s2, s3, s4, s5, s6, s7, s8, s9, s10, s11, s12, s13, s14, s15⟩; go_simp; with_reducible rfl)
                refine one_ (i := 23) (N := some 69) (bz 52 16777215) rfl rfl (one_of HT_.out (by kernel_rfl)) (by decide) (fun K hK => ?_)
                refine goes_ Try.func58 (by kernel_rfl) rfl #[.slice A0_10 l0_10.length c0_10] (by rfl) rfl rfl (by (try simp only [zK, zL, zM]); first | done | rfl | (simp only [zN, zO]; rfl)) ?_
                with_reducible refine (spec_l11Pages.calls kj1 _ _ l0_10 true _ ?side1 ?side2 A42.out).mono ?_
                (case side1 => repeat (first | exact (yY HR0_10.out (by repeat (first | (with_reducible first | exact HB.out | apply yQ | apply yL | apply yP | refine yE ?_ GE40.out | refine yE ?_ GE197.out) | exact HB.out))) | (with_reducible first | refine yV ?_ _ | refine yW ?_ _ | refine yX ?_)))
                (case side2 => exact HC0_10.out)
                rintro e w68 ⟨rfl, hb⟩
                refine ⟨_, rfl, ?_⟩
                have n0_ := yD (zB (g := g0_0) (o := .cells #[.slice A0_0 l0_0.length c0_0, .slice A0_1 l0_1.length c0_1, .int .i64 a0_2, .bool a0_3, .int .i64 a0_4, .int .i64 a0_5, .int .i64 a0_6, .int .i64 a0_7, .int .i64 a0_8, .int .i64 a0_9, .slice A0_10 l0_10.length c0_10, .slice A0_11 l0_11.length c0_11] 48 (0, 0)) (by (with_reducible repeat (first | refine yM ?_ _ | refine yO ?_ | refine yN ?_ _)); exact BK40.out) hb)
                have n1_ := yD (zB (g := gb197) (o := .cells #[.int .i64 a0_4, .int .i64 a0_5, .int .i64 a0_6, .int .i64 a0_7] 45 (0, 0)) (by (with_reducible repeat (first | refine yM ?_ _ | refine yO ?_ | refine yN ?_ _)); exact BK197.out) hb)
                have n2_ := yD (zC (by repeat (first | (with_reducible first | exact HB.out | apply yQ | apply yL | apply yP | refine yE ?_ GE40.out | refine yE ?_ GE197.out) | exact HB.out)) hb)
                clear BK40 BK197 HB; have BK40 := n0_; have BK197 := n1_; have HB := n2_; clear n0_ n1_ n2_; (try clear hb); (try clear hb2); (try clear hk); (try clear hi)
                refine hK.out _ _ ⟨(yG BK40.out 0).trans rfl, (yG BK40.out 1).trans rfl, (yG BK40.out 2).trans rfl, (yG BK40.out 3).trans rfl, (yG BK40.out 4).trans rfl, (yG BK40.out 5).trans rfl, (yG BK40.out 6).trans rfl, (yG BK40.out 7).trans rfl, (yG BK40.out 8).trans rfl, (yG BK40.out 9).trans rfl, (yG BK40.out 10).trans rfl, (yG BK40.out 11).trans rfl, (yG BK197.out 0).trans rfl, (yG BK197.out 1).trans rfl, (yG BK197.out 2).trans rfl, (yG BK197.out 3).trans rfl⟩ (fun hHeld => ?_)
                clear hK K
                refine norm_ (a' := ?_) ?_ ?_
                rotate_left
                · show Act.put _ (some 69) _ = _
                  simp only [Act.put, zH, zI, zJ, i64_w, i32_w]
                  rfl
                refine qA 24 70 (bz 52 33554431) HT_ ?_
                refine qA 25 71 (bz 52 67108863) HT_ ?_
                refine qA 26 72 (bz 52 134217727) HT_ ?_
                refine qA 27 73 (bz 52 268435455) HT_ ?_
                refine qA 28 74 (bz 52 536870911) HT_ ?_
                refine qA 29 75 (bz 52 1073741823) HT_ ?_
                refine qC 30 76 (bz 52 2147483647) HT_ HW_ hHeld ?_ (hy := by rintro w' ⟨s0, s1, s2, s3, s4, s5, s6, s7, s8, s9, s10, s11, s12, s13, s14, s15⟩; go_simp; with_reducible rfl)
                refine one_ (i := 31) (N := some 77) (bz 52 4294967295) rfl rfl (one_of HT_.out (by kernel_rfl)) (by decide) (fun K hK => ?_)
                refine goes_ Try.func58 (by kernel_rfl) rfl #[.slice A0_11 l0_11.length c0_11] (by rfl) rfl rfl (by (try simp only [zK, zL, zM]); first | done | rfl | (simp only [zN, zO]; rfl)) ?_
                with_reducible refine (spec_l11Pages.calls kj1 _ _ l0_11 false _ ?side1 ?side2 A44.out).mono ?_
                (case side1 => repeat (first | exact (yY HR0_11.out HB.out) | (with_reducible first | refine yV ?_ _ | refine yW ?_ _ | refine yX ?_)))
                (case side2 => exact HC0_11.out)
                rintro e w69 ⟨rfl, hb⟩
                refine ⟨_, rfl, ?_⟩
                have n0_ := yD (zB (g := g0_0) (o := .cells #[.slice A0_0 l0_0.length c0_0, .slice A0_1 l0_1.length c0_1, .int .i64 a0_2, .bool a0_3, .int .i64 a0_4, .int .i64 a0_5, .int .i64 a0_6, .int .i64 a0_7, .int .i64 a0_8, .int .i64 a0_9, .slice A0_10 l0_10.length c0_10, .slice A0_11 l0_11.length c0_11] 48 (0, 0)) (by (with_reducible repeat (first | refine yM ?_ _ | refine yO ?_ | refine yN ?_ _)); exact BK40.out) hb)
                have n1_ := yD (zB (g := gb197) (o := .cells #[.int .i64 a0_4, .int .i64 a0_5, .int .i64 a0_6, .int .i64 a0_7] 45 (0, 0)) (by (with_reducible repeat (first | refine yM ?_ _ | refine yO ?_ | refine yN ?_ _)); exact BK197.out) hb)
                have n2_ := yD (zC (by repeat (first | (with_reducible first | exact HB.out | apply yQ | apply yL | apply yP | refine yE ?_ GE40.out | refine yE ?_ GE197.out) | exact HB.out)) hb)
                clear BK40 BK197 HB; have BK40 := n0_; have BK197 := n1_; have HB := n2_; clear n0_ n1_ n2_; (try clear hb); (try clear hb2); (try clear hk); (try clear hi)
                refine hK.out _ _ ⟨(yG BK40.out 0).trans rfl, (yG BK40.out 1).trans rfl, (yG BK40.out 2).trans rfl, (yG BK40.out 3).trans rfl, (yG BK40.out 4).trans rfl, (yG BK40.out 5).trans rfl, (yG BK40.out 6).trans rfl, (yG BK40.out 7).trans rfl, (yG BK40.out 8).trans rfl, (yG BK40.out 9).trans rfl, (yG BK40.out 10).trans rfl, (yG BK40.out 11).trans rfl, (yG BK197.out 0).trans rfl, (yG BK197.out 1).trans rfl, (yG BK197.out 2).trans rfl, (yG BK197.out 3).trans rfl⟩ (fun hHeld => ?_)
                clear hK K
                refine norm_ (a' := ?_) ?_ ?_
                rotate_left
                · show Act.put _ (some 77) _ = _
                  simp only [Act.put, zH, zI, zJ, i64_w, i32_w]
                  rfl
                refine qA 32 78 (bz 52 8589934591) HT_ ?_
                refine qA 33 79 (bz 52 17179869183) HT_ ?_
                refine qA 34 80 (bz 52 34359738367) HT_ ?_
                refine qB 35 81 (bz 52 68719476735) HT_ ?_
                refine qB 36 82 (bz 52 137438953471) HT_ ?_
                refine qB 37 83 (bz 52 274877906943) HT_ ?_
                refine qB 38 84 (bz 52 549755813887) HT_ ?_
                refine qB 39 85 (bz 52 1099511627775) HT_ ?_
                refine qB 40 86 (bz 52 2199023255551) HT_ ?_
                refine qB 41 87 (bz 52 4398046511103) HT_ ?_
                refine qA 42 88 (bz 52 8796093022207) HT_ ?_
                refine qA 43 89 (bz 52 17592186044415) HT_ ?_
                refine qB 44 90 (bz 52 35184372088831) HT_ ?_
                refine qB 45 91 (bz 52 70368744177663) HT_ ?_
                refine qB 46 92 (bz 52 140737488355327) HT_ ?_
                refine qB 47 93 (bz 52 281474976710655) HT_ ?_
                refine qB 48 94 (bz 52 562949953421311) HT_ ?_
                refine qB 49 95 (bz 52 1125899906842623) HT_ ?_
                refine qB 50 96 (bz 52 2251799813685247) HT_ ?_
                refine qA 51 97 (bz 52 4503599627370495) HT_ ?_
                refine done_ (done_of HT_.out (by kernel_rfl)) ?_
                try go_wp2
                go_ret
                exact ⟨by first | rfl | (simp <;> rfl) | (simp [*] <;> rfl), by repeat (first | (with_reducible first | exact HB.out | apply yQ | apply yL | apply yP | refine yE ?_ GE40.out | refine yE ?_ GE197.out) | exact HB.out)⟩
            · replace c43 := Bool.eq_false_iff.mpr c43
              subst c43
              have H1 : (some false) = some r := by rw [if_neg (show ¬ (false = true) by decide)] at H; exact H
              clear H; have H := H1; clear H1; obtain rfl := Option.some.inj H
              try go_wp2
              have n0_ := yD (yO BK40.out)
              have n1_ := yD (yO BK197.out)
              have n2_ := yD (yP HB.out)
              clear BK40 BK197 HB; have BK40 := n0_; have BK197 := n1_; have HB := n2_; clear n0_ n1_ n2_
              refine start_ (n := 52) (S := fun w' => w'.cell? ⟨g0_0, 0, none⟩ = some (.slice A0_0 l0_0.length c0_0) ∧ w'.cell? ⟨g0_0, 1, none⟩ = some (.slice A0_1 l0_1.length c0_1) ∧ w'.cell? ⟨g0_0, 2, none⟩ = some (.int .i64 a0_2) ∧ w'.cell? ⟨g0_0, 3, none⟩ = some (.bool a0_3) ∧ w'.cell? ⟨g0_0, 4, none⟩ = some (.int .i64 a0_4) ∧ w'.cell? ⟨g0_0, 5, none⟩ = some (.int .i64 a0_5) ∧ w'.cell? ⟨g0_0, 6, none⟩ = some (.int .i64 a0_6) ∧ w'.cell? ⟨g0_0, 7, none⟩ = some (.int .i64 a0_7) ∧ w'.cell? ⟨g0_0, 8, none⟩ = some (.int .i64 a0_8) ∧ w'.cell? ⟨g0_0, 9, none⟩ = some (.int .i64 a0_9) ∧ w'.cell? ⟨g0_0, 10, none⟩ = some (.slice A0_10 l0_10.length c0_10) ∧ w'.cell? ⟨g0_0, 11, none⟩ = some (.slice A0_11 l0_11.length c0_11) ∧ w'.cell? ⟨gb197, 0, none⟩ = some (.int .i64 a0_4) ∧ w'.cell? ⟨gb197, 1, none⟩ = some (.int .i64 a0_5) ∧ w'.cell? ⟨gb197, 2, none⟩ = some (.int .i64 a0_6) ∧ w'.cell? ⟨gb197, 3, none⟩ = some (.int .i64 a0_7)) (ds := []) (bz 52 0) (by kernel_rfl) rfl rfl ⟨(yG BK40.out 0).trans rfl, (yG BK40.out 1).trans rfl, (yG BK40.out 2).trans rfl, (yG BK40.out 3).trans rfl, (yG BK40.out 4).trans rfl, (yG BK40.out 5).trans rfl, (yG BK40.out 6).trans rfl, (yG BK40.out 7).trans rfl, (yG BK40.out 8).trans rfl, (yG BK40.out 9).trans rfl, (yG BK40.out 10).trans rfl, (yG BK40.out 11).trans rfl, (yG BK197.out 0).trans rfl, (yG BK197.out 1).trans rfl, (yG BK197.out 2).trans rfl, (yG BK197.out 3).trans rfl⟩ (fun hHeld => ?_); refine with_tabW spec_l12Ok_c48.tab4 spec_l12Ok_c48.bits4 (fun HT_ HW_ => ?_)
              generalize wc.drew = w70 at BK40 BK197 HB hHeld ⊢
              refine qA 0 46 (bz 52 1) HT_ ?_
              refine qA 1 47 (bz 52 3) HT_ ?_
              refine qA 2 48 (bz 52 7) HT_ ?_
              refine qA 4 50 (bz 52 23) HT_ ?_
              refine qC 3 49 (bz 52 31) HT_ HW_ hHeld ?_ (hy := by rintro w' ⟨s0, s1, s2, s3, s4, s5, s6, s7, s8, s9, s10, s11, s12, s13, s14, s15⟩; go_simp; with_reducible rfl)
              refine qC 5 51 (bz 52 63) HT_ HW_ hHeld ?_ (hy := by rintro w' ⟨s0, s1, s2, s3, s4, s5, s6, s7, s8, s9, s10, s11, s12, s13, s14, s15⟩; go_simp; with_reducible rfl)
              refine one_ (i := 6) (N := some 52) (bz 52 127) rfl rfl (one_of HT_.out (by kernel_rfl)) (by decide) (fun K hK => ?_)
              refine goes_ Try.func44 (by kernel_rfl) rfl #[.int .i64 a0_8, .int .i64 a0_6, .int .i64 1000000000000] (by rfl) rfl rfl (by (try simp only [zK, zL, zM]); first | done | rfl | (simp only [zN, zO]; rfl)) ?_
              with_reducible refine (spec_l00In.calls a0_8 a0_6 1000000000000 true _ A38.out).mono ?_
              rintro e w' ⟨rfl, ⟨nd, rfl⟩⟩
              refine ⟨_, rfl, ?_⟩
              refine hK.out _ _ ⟨(yG BK40.out 0).trans rfl, (yG BK40.out 1).trans rfl, (yG BK40.out 2).trans rfl, (yG BK40.out 3).trans rfl, (yG BK40.out 4).trans rfl, (yG BK40.out 5).trans rfl, (yG BK40.out 6).trans rfl, (yG BK40.out 7).trans rfl, (yG BK40.out 8).trans rfl, (yG BK40.out 9).trans rfl, (yG BK40.out 10).trans rfl, (yG BK40.out 11).trans rfl, (yG BK197.out 0).trans rfl, (yG BK197.out 1).trans rfl, (yG BK197.out 2).trans rfl, (yG BK197.out 3).trans rfl⟩ (fun hHeld => ?_)
              clear hK K
              refine norm_ (a' := ?_) ?_ ?_
              rotate_left
              · show Act.put _ (some 52) _ = _
                simp only [Act.put, zH, zI, zJ, i64_w, i32_w]
                rfl
              refine qA 7 53 (bz 52 255) HT_ ?_
              refine qA 8 54 (bz 52 511) HT_ ?_
              refine qA 9 55 (bz 52 1023) HT_ ?_
              refine qA 10 56 (bz 52 2047) HT_ ?_
              refine qA 11 57 (bz 52 4095) HT_ ?_
              refine qA 13 59 (bz 52 12287) HT_ ?_
              refine qC 12 58 (bz 52 16383) HT_ HW_ hHeld ?_ (hy := by rintro w' ⟨s0, s1, s2, s3, s4, s5, s6, s7, s8, s9, s10, s11, s12, s13, s14, s15⟩; go_simp; with_reducible rfl)
              refine qC 14 60 (bz 52 32767) HT_ HW_ hHeld ?_ (hy := by rintro w' ⟨s0, s1, s2, s3, s4, s5, s6, s7, s8, s9, s10, s11, s12, s13, s14, s15⟩; go_simp; with_reducible rfl)
              refine one_ (i := 15) (N := some 61) (bz 52 65535) rfl rfl (one_of HT_.out (by kernel_rfl)) (by decide) (fun K hK => ?_)
              refine goes_ Try.func44 (by kernel_rfl) rfl #[.int .i64 a0_9, .int .i64 0, .int .i64 a0_5] (by rfl) rfl rfl (by (try simp only [zK, zL, zM]); first | done | rfl | (simp only [zN, zO]; rfl)) ?_
              with_reducible refine (spec_l00In.calls a0_9 0 a0_5 true _ A40.out).mono ?_
              rintro e w' ⟨rfl, ⟨nd, rfl⟩⟩
              refine ⟨_, rfl, ?_⟩
              refine hK.out _ _ ⟨(yG BK40.out 0).trans rfl, (yG BK40.out 1).trans rfl, (yG BK40.out 2).trans rfl, (yG BK40.out 3).trans rfl, (yG BK40.out 4).trans rfl, (yG BK40.out 5).trans rfl, (yG BK40.out 6).trans rfl, (yG BK40.out 7).trans rfl, (yG BK40.out 8).trans rfl, (yG BK40.out 9).trans rfl, (yG BK40.out 10).trans rfl, (yG BK40.out 11).trans rfl, (yG BK197.out 0).trans rfl, (yG BK197.out 1).trans rfl, (yG BK197.out 2).trans rfl, (yG BK197.out 3).trans rfl⟩ (fun hHeld => ?_)
              clear hK K
              refine norm_ (a' := ?_) ?_ ?_
              rotate_left
              · show Act.put _ (some 61) _ = _
                simp only [Act.put, zH, zI, zJ, i64_w, i32_w]
                rfl
              refine qA 16 62 (bz 52 131071) HT_ ?_
              refine qA 17 63 (bz 52 262143) HT_ ?_
              refine qA 18 64 (bz 52 524287) HT_ ?_
              refine qA 19 65 (bz 52 1048575) HT_ ?_
              refine qA 20 66 (bz 52 2097151) HT_ ?_
              refine qA 21 67 (bz 52 4194303) HT_ ?_
              refine qC 22 68 (bz 52 8388607) HT_ HW_ hHeld ?_ (hy := by rintro w' ⟨s0, s1, s2, s3, s4, s5, s6, s7, s8, s9, s10, s11, s12, s13, s14, s15⟩; go_simp; with_reducible rfl)
              refine one_ (i := 23) (N := some 69) (bz 52 16777215) rfl rfl (one_of HT_.out (by kernel_rfl)) (by decide) (fun K hK => ?_)
              refine goes_ Try.func58 (by kernel_rfl) rfl #[.slice A0_10 l0_10.length c0_10] (by rfl) rfl rfl (by (try simp only [zK, zL, zM]); first | done | rfl | (simp only [zN, zO]; rfl)) ?_
              with_reducible refine (spec_l11Pages.calls kj1 _ _ l0_10 false _ ?side1 ?side2 A42.out).mono ?_
              (case side1 => repeat (first | exact (yY HR0_10.out (by repeat (first | (with_reducible first | exact HB.out | apply yQ | apply yL | apply yP | refine yE ?_ GE40.out | refine yE ?_ GE197.out) | exact HB.out))) | (with_reducible first | refine yV ?_ _ | refine yW ?_ _ | refine yX ?_)))
              (case side2 => exact HC0_10.out)
              rintro e w71 ⟨rfl, hb⟩
              refine ⟨_, rfl, ?_⟩
              have n0_ := yD (zB (g := g0_0) (o := .cells #[.slice A0_0 l0_0.length c0_0, .slice A0_1 l0_1.length c0_1, .int .i64 a0_2, .bool a0_3, .int .i64 a0_4, .int .i64 a0_5, .int .i64 a0_6, .int .i64 a0_7, .int .i64 a0_8, .int .i64 a0_9, .slice A0_10 l0_10.length c0_10, .slice A0_11 l0_11.length c0_11] 48 (0, 0)) (by (with_reducible repeat (first | refine yM ?_ _ | refine yO ?_ | refine yN ?_ _)); exact BK40.out) hb)
              have n1_ := yD (zB (g := gb197) (o := .cells #[.int .i64 a0_4, .int .i64 a0_5, .int .i64 a0_6, .int .i64 a0_7] 45 (0, 0)) (by (with_reducible repeat (first | refine yM ?_ _ | refine yO ?_ | refine yN ?_ _)); exact BK197.out) hb)
              have n2_ := yD (zC (by repeat (first | (with_reducible first | exact HB.out | apply yQ | apply yL | apply yP | refine yE ?_ GE40.out | refine yE ?_ GE197.out) | exact HB.out)) hb)
              clear BK40 BK197 HB; have BK40 := n0_; have BK197 := n1_; have HB := n2_; clear n0_ n1_ n2_; (try clear hb); (try clear hb2); (try clear hk); (try clear hi)
              refine hK.out _ _ ⟨(yG BK40.out 0).trans rfl, (yG BK40.out 1).trans rfl, (yG BK40.out 2).trans rfl, (yG BK40.out 3).trans rfl, (yG BK40.out 4).trans rfl, (yG BK40.out 5).trans rfl, (yG BK40.out 6).trans rfl, (yG BK40.out 7).trans rfl, (yG BK40.out 8).trans rfl, (yG BK40.out 9).trans rfl, (yG BK40.out 10).trans rfl, (yG BK40.out 11).trans rfl, (yG BK197.out 0).trans rfl, (yG BK197.out 1).trans rfl, (yG BK197.out 2).trans rfl, (yG BK197.out 3).trans rfl⟩ (fun hHeld => ?_)
              clear hK K
              refine norm_ (a' := ?_) ?_ ?_
              rotate_left
              · show Act.put _ (some 69) _ = _
                simp only [Act.put, zH, zI, zJ, i64_w, i32_w]
                rfl
              refine qA 24 70 (bz 52 33554431) HT_ ?_
              refine qA 25 71 (bz 52 67108863) HT_ ?_
              refine qA 26 72 (bz 52 134217727) HT_ ?_
              refine qB 27 73 (bz 52 268435455) HT_ ?_
              refine qB 28 74 (bz 52 536870911) HT_ ?_
              refine qB 29 75 (bz 52 1073741823) HT_ ?_
              refine qB 30 76 (bz 52 2147483647) HT_ ?_
              refine qB 31 77 (bz 52 4294967295) HT_ ?_
              refine qB 32 78 (bz 52 8589934591) HT_ ?_
              refine qA 33 79 (bz 52 17179869183) HT_ ?_
              refine qA 34 80 (bz 52 34359738367) HT_ ?_
              refine qB 35 81 (bz 52 68719476735) HT_ ?_
              refine qB 36 82 (bz 52 137438953471) HT_ ?_
              refine qB 37 83 (bz 52 274877906943) HT_ ?_
              refine qB 38 84 (bz 52 549755813887) HT_ ?_
              refine qB 39 85 (bz 52 1099511627775) HT_ ?_
              refine qB 40 86 (bz 52 2199023255551) HT_ ?_
              refine qB 41 87 (bz 52 4398046511103) HT_ ?_
              refine qA 42 88 (bz 52 8796093022207) HT_ ?_
              refine qA 43 89 (bz 52 17592186044415) HT_ ?_
              refine qB 44 90 (bz 52 35184372088831) HT_ ?_
              refine qB 45 91 (bz 52 70368744177663) HT_ ?_
              refine qB 46 92 (bz 52 140737488355327) HT_ ?_
              refine qB 47 93 (bz 52 281474976710655) HT_ ?_
              refine qB 48 94 (bz 52 562949953421311) HT_ ?_
              refine qB 49 95 (bz 52 1125899906842623) HT_ ?_
              refine qB 50 96 (bz 52 2251799813685247) HT_ ?_
              refine qA 51 97 (bz 52 4503599627370495) HT_ ?_
              refine done_ (done_of HT_.out (by kernel_rfl)) ?_
              try go_wp2
              go_ret
              exact ⟨by first | rfl | (simp <;> rfl) | (simp [*] <;> rfl), by repeat (first | (with_reducible first | exact HB.out | apply yQ | apply yL | apply yP | refine yE ?_ GE40.out | refine yE ?_ GE197.out) | exact HB.out)⟩
          · replace c41 := Bool.eq_false_iff.mpr c41
            subst c41
            have H1 : (some false) = some r := by rw [if_neg (show ¬ (false = true) by decide)] at H; exact H
            clear H; have H := H1; clear H1; obtain rfl := Option.some.inj H
            try go_wp2
            have n0_ := yD (yO BK40.out)
            have n1_ := yD (yO BK197.out)
            have n2_ := yD (yP HB.out)
            clear BK40 BK197 HB; have BK40 := n0_; have BK197 := n1_; have HB := n2_; clear n0_ n1_ n2_
            refine start_ (n := 52) (S := fun w' => w'.cell? ⟨g0_0, 0, none⟩ = some (.slice A0_0 l0_0.length c0_0) ∧ w'.cell? ⟨g0_0, 1, none⟩ = some (.slice A0_1 l0_1.length c0_1) ∧ w'.cell? ⟨g0_0, 2, none⟩ = some (.int .i64 a0_2) ∧ w'.cell? ⟨g0_0, 3, none⟩ = some (.bool a0_3) ∧ w'.cell? ⟨g0_0, 4, none⟩ = some (.int .i64 a0_4) ∧ w'.cell? ⟨g0_0, 5, none⟩ = some (.int .i64 a0_5) ∧ w'.cell? ⟨g0_0, 6, none⟩ = some (.int .i64 a0_6) ∧ w'.cell? ⟨g0_0, 7, none⟩ = some (.int .i64 a0_7) ∧ w'.cell? ⟨g0_0, 8, none⟩ = some (.int .i64 a0_8) ∧ w'.cell? ⟨g0_0, 9, none⟩ = some (.int .i64 a0_9) ∧ w'.cell? ⟨g0_0, 10, none⟩ = some (.slice A0_10 l0_10.length c0_10) ∧ w'.cell? ⟨g0_0, 11, none⟩ = some (.slice A0_11 l0_11.length c0_11) ∧ w'.cell? ⟨gb197, 0, none⟩ = some (.int .i64 a0_4) ∧ w'.cell? ⟨gb197, 1, none⟩ = some (.int .i64 a0_5) ∧ w'.cell? ⟨gb197, 2, none⟩ = some (.int .i64 a0_6) ∧ w'.cell? ⟨gb197, 3, none⟩ = some (.int .i64 a0_7)) (ds := []) (bz 52 0) (by kernel_rfl) rfl rfl ⟨(yG BK40.out 0).trans rfl, (yG BK40.out 1).trans rfl, (yG BK40.out 2).trans rfl, (yG BK40.out 3).trans rfl, (yG BK40.out 4).trans rfl, (yG BK40.out 5).trans rfl, (yG BK40.out 6).trans rfl, (yG BK40.out 7).trans rfl, (yG BK40.out 8).trans rfl, (yG BK40.out 9).trans rfl, (yG BK40.out 10).trans rfl, (yG BK40.out 11).trans rfl, (yG BK197.out 0).trans rfl, (yG BK197.out 1).trans rfl, (yG BK197.out 2).trans rfl, (yG BK197.out 3).trans rfl⟩ (fun hHeld => ?_); refine with_tabW spec_l12Ok_c48.tab4 spec_l12Ok_c48.bits4 (fun HT_ HW_ => ?_)
            generalize wc.drew = w72 at BK40 BK197 HB hHeld ⊢
            refine qA 0 46 (bz 52 1) HT_ ?_
            refine qA 1 47 (bz 52 3) HT_ ?_
            refine qA 2 48 (bz 52 7) HT_ ?_
            refine qA 4 50 (bz 52 23) HT_ ?_
            refine qC 3 49 (bz 52 31) HT_ HW_ hHeld ?_ (hy := by rintro w' ⟨s0, s1, s2, s3, s4, s5, s6, s7, s8, s9, s10, s11, s12, s13, s14, s15⟩; go_simp; with_reducible rfl)
            refine qC 5 51 (bz 52 63) HT_ HW_ hHeld ?_ (hy := by rintro w' ⟨s0, s1, s2, s3, s4, s5, s6, s7, s8, s9, s10, s11, s12, s13, s14, s15⟩; go_simp; with_reducible rfl)
            refine one_ (i := 6) (N := some 52) (bz 52 127) rfl rfl (one_of HT_.out (by kernel_rfl)) (by decide) (fun K hK => ?_)
            refine goes_ Try.func44 (by kernel_rfl) rfl #[.int .i64 a0_8, .int .i64 a0_6, .int .i64 1000000000000] (by rfl) rfl rfl (by (try simp only [zK, zL, zM]); first | done | rfl | (simp only [zN, zO]; rfl)) ?_
            with_reducible refine (spec_l00In.calls a0_8 a0_6 1000000000000 true _ A38.out).mono ?_
            rintro e w' ⟨rfl, ⟨nd, rfl⟩⟩
            refine ⟨_, rfl, ?_⟩
            refine hK.out _ _ ⟨(yG BK40.out 0).trans rfl, (yG BK40.out 1).trans rfl, (yG BK40.out 2).trans rfl, (yG BK40.out 3).trans rfl, (yG BK40.out 4).trans rfl, (yG BK40.out 5).trans rfl, (yG BK40.out 6).trans rfl, (yG BK40.out 7).trans rfl, (yG BK40.out 8).trans rfl, (yG BK40.out 9).trans rfl, (yG BK40.out 10).trans rfl, (yG BK40.out 11).trans rfl, (yG BK197.out 0).trans rfl, (yG BK197.out 1).trans rfl, (yG BK197.out 2).trans rfl, (yG BK197.out 3).trans rfl⟩ (fun hHeld => ?_)
            clear hK K
            refine norm_ (a' := ?_) ?_ ?_
            rotate_left
            · show Act.put _ (some 52) _ = _
              simp only [Act.put, zH, zI, zJ, i64_w, i32_w]
              rfl
            refine qA 7 53 (bz 52 255) HT_ ?_
            refine qA 8 54 (bz 52 511) HT_ ?_
            refine qA 9 55 (bz 52 1023) HT_ ?_
            refine qA 10 56 (bz 52 2047) HT_ ?_
            refine qA 11 57 (bz 52 4095) HT_ ?_
            refine qA 13 59 (bz 52 12287) HT_ ?_
            refine qC 12 58 (bz 52 16383) HT_ HW_ hHeld ?_ (hy := by rintro w' ⟨s0, s1, s2, s3, s4, s5, s6, s7, s8, s9, s10, s11, s12, s13, s14, s15⟩; go_simp; with_reducible rfl)
            refine qC 14 60 (bz 52 32767) HT_ HW_ hHeld ?_ (hy := by rintro w' ⟨s0, s1, s2, s3, s4, s5, s6, s7, s8, s9, s10, s11, s12, s13, s14, s15⟩; go_simp; with_reducible rfl)
            refine one_ (i := 15) (N := some 61) (bz 52 65535) rfl rfl (one_of HT_.out (by kernel_rfl)) (by decide) (fun K hK => ?_)
            refine goes_ Try.func44 (by kernel_rfl) rfl #[.int .i64 a0_9, .int .i64 0, .int .i64 a0_5] (by rfl) rfl rfl (by (try simp only [zK, zL, zM]); first | done | rfl | (simp only [zN, zO]; rfl)) ?_
            with_reducible refine (spec_l00In.calls a0_9 0 a0_5 false _ A40.out).mono ?_
            rintro e w' ⟨rfl, ⟨nd, rfl⟩⟩
            refine ⟨_, rfl, ?_⟩
            refine hK.out _ _ ⟨(yG BK40.out 0).trans rfl, (yG BK40.out 1).trans rfl, (yG BK40.out 2).trans rfl, (yG BK40.out 3).trans rfl, (yG BK40.out 4).trans rfl, (yG BK40.out 5).trans rfl, (yG BK40.out 6).trans rfl, (yG BK40.out 7).trans rfl, (yG BK40.out 8).trans rfl, (yG BK40.out 9).trans rfl, (yG BK40.out 10).trans rfl, (yG BK40.out 11).trans rfl, (yG BK197.out 0).trans rfl, (yG BK197.out 1).trans rfl, (yG BK197.out 2).trans rfl, (yG BK197.out 3).trans rfl⟩ (fun hHeld => ?_)
            clear hK K
            refine norm_ (a' := ?_) ?_ ?_
            rotate_left
            · show Act.put _ (some 61) _ = _
              simp only [Act.put, zH, zI, zJ, i64_w, i32_w]
              rfl
            refine qA 16 62 (bz 52 131071) HT_ ?_
            refine qA 17 63 (bz 52 262143) HT_ ?_
            refine qA 18 64 (bz 52 524287) HT_ ?_
            refine qB 19 65 (bz 52 1048575) HT_ ?_
            refine qB 20 66 (bz 52 2097151) HT_ ?_
            refine qB 21 67 (bz 52 4194303) HT_ ?_
            refine qB 22 68 (bz 52 8388607) HT_ ?_
            refine qB 23 69 (bz 52 16777215) HT_ ?_
            refine qB 24 70 (bz 52 33554431) HT_ ?_
            refine qA 25 71 (bz 52 67108863) HT_ ?_
            refine qA 26 72 (bz 52 134217727) HT_ ?_
            refine qB 27 73 (bz 52 268435455) HT_ ?_
            refine qB 28 74 (bz 52 536870911) HT_ ?_
            refine qB 29 75 (bz 52 1073741823) HT_ ?_
            refine qB 30 76 (bz 52 2147483647) HT_ ?_
            refine qB 31 77 (bz 52 4294967295) HT_ ?_
            refine qB 32 78 (bz 52 8589934591) HT_ ?_
            refine qA 33 79 (bz 52 17179869183) HT_ ?_
            refine qA 34 80 (bz 52 34359738367) HT_ ?_
            refine qB 35 81 (bz 52 68719476735) HT_ ?_
            refine qB 36 82 (bz 52 137438953471) HT_ ?_
            refine qB 37 83 (bz 52 274877906943) HT_ ?_
            refine qB 38 84 (bz 52 549755813887) HT_ ?_
            refine qB 39 85 (bz 52 1099511627775) HT_ ?_
            refine qB 40 86 (bz 52 2199023255551) HT_ ?_
            refine qB 41 87 (bz 52 4398046511103) HT_ ?_
            refine qA 42 88 (bz 52 8796093022207) HT_ ?_
            refine qA 43 89 (bz 52 17592186044415) HT_ ?_
            refine qB 44 90 (bz 52 35184372088831) HT_ ?_
            refine qB 45 91 (bz 52 70368744177663) HT_ ?_
            refine qB 46 92 (bz 52 140737488355327) HT_ ?_
            refine qB 47 93 (bz 52 281474976710655) HT_ ?_
            refine qB 48 94 (bz 52 562949953421311) HT_ ?_
            refine qB 49 95 (bz 52 1125899906842623) HT_ ?_
            refine qB 50 96 (bz 52 2251799813685247) HT_ ?_
            refine qA 51 97 (bz 52 4503599627370495) HT_ ?_
            refine done_ (done_of HT_.out (by kernel_rfl)) ?_
            try go_wp2
            go_ret
            exact ⟨by first | rfl | (simp <;> rfl) | (simp [*] <;> rfl), by repeat (first | (with_reducible first | exact HB.out | apply yQ | apply yL | apply yP | refine yE ?_ GE40.out | refine yE ?_ GE197.out) | exact HB.out)⟩
        · replace c39 := Bool.eq_false_iff.mpr c39
          subst c39
          have H1 : (some false) = some r := by rw [if_neg (show ¬ (false = true) by decide)] at H; exact H
          clear H; have H := H1; clear H1; obtain rfl := Option.some.inj H
          try go_wp2
          have n0_ := yD (yO BK40.out)
          have n1_ := yD (yO BK197.out)
          have n2_ := yD (yP HB.out)
          clear BK40 BK197 HB; have BK40 := n0_; have BK197 := n1_; have HB := n2_; clear n0_ n1_ n2_
          refine start_ (n := 52) (S := fun w' => w'.cell? ⟨g0_0, 0, none⟩ = some (.slice A0_0 l0_0.length c0_0) ∧ w'.cell? ⟨g0_0, 1, none⟩ = some (.slice A0_1 l0_1.length c0_1) ∧ w'.cell? ⟨g0_0, 2, none⟩ = some (.int .i64 a0_2) ∧ w'.cell? ⟨g0_0, 3, none⟩ = some (.bool a0_3) ∧ w'.cell? ⟨g0_0, 4, none⟩ = some (.int .i64 a0_4) ∧ w'.cell? ⟨g0_0, 5, none⟩ = some (.int .i64 a0_5) ∧ w'.cell? ⟨g0_0, 6, none⟩ = some (.int .i64 a0_6) ∧ w'.cell? ⟨g0_0, 7, none⟩ = some (.int .i64 a0_7) ∧ w'.cell? ⟨g0_0, 8, none⟩ = some (.int .i64 a0_8) ∧ w'.cell? ⟨g0_0, 9, none⟩ = some (.int .i64 a0_9) ∧ w'.cell? ⟨g0_0, 10, none⟩ = some (.slice A0_10 l0_10.length c0_10) ∧ w'.cell? ⟨g0_0, 11, none⟩ = some (.slice A0_11 l0_11.length c0_11) ∧ w'.cell? ⟨gb197, 0, none⟩ = some (.int .i64 a0_4) ∧ w'.cell? ⟨gb197, 1, none⟩ = some (.int .i64 a0_5) ∧ w'.cell? ⟨gb197, 2, none⟩ = some (.int .i64 a0_6) ∧ w'.cell? ⟨gb197, 3, none⟩ = some (.int .i64 a0_7)) (ds := []) (bz 52 0) (by kernel_rfl) rfl rfl ⟨(yG BK40.out 0).trans rfl, (yG BK40.out 1).trans rfl, (yG BK40.out 2).trans rfl, (yG BK40.out 3).trans rfl, (yG BK40.out 4).trans rfl, (yG BK40.out 5).trans rfl, (yG BK40.out 6).trans rfl, (yG BK40.out 7).trans rfl, (yG BK40.out 8).trans rfl, (yG BK40.out 9).trans rfl, (yG BK40.out 10).trans rfl, (yG BK40.out 11).trans rfl, (yG BK197.out 0).trans rfl, (yG BK197.out 1).trans rfl, (yG BK197.out 2).trans rfl, (yG BK197.out 3).trans rfl⟩ (fun hHeld => ?_); refine with_tabW spec_l12Ok_c48.tab4 spec_l12Ok_c48.bits4 (fun HT_ HW_ => ?_)
          generalize wc.drew = w73 at BK40 BK197 HB hHeld ⊢
          refine qA 0 46 (bz 52 1) HT_ ?_
          refine qA 1 47 (bz 52 3) HT_ ?_
          refine qA 2 48 (bz 52 7) HT_ ?_
          refine qA 4 50 (bz 52 23) HT_ ?_
          refine qC 3 49 (bz 52 31) HT_ HW_ hHeld ?_ (hy := by rintro w' ⟨s0, s1, s2, s3, s4, s5, s6, s7, s8, s9, s10, s11, s12, s13, s14, s15⟩; go_simp; with_reducible rfl)
          refine qC 5 51 (bz 52 63) HT_ HW_ hHeld ?_ (hy := by rintro w' ⟨s0, s1, s2, s3, s4, s5, s6, s7, s8, s9, s10, s11, s12, s13, s14, s15⟩; go_simp; with_reducible rfl)
          refine one_ (i := 6) (N := some 52) (bz 52 127) rfl rfl (one_of HT_.out (by kernel_rfl)) (by decide) (fun K hK => ?_)
          refine goes_ Try.func44 (by kernel_rfl) rfl #[.int .i64 a0_8, .int .i64 a0_6, .int .i64 1000000000000] (by rfl) rfl rfl (by (try simp only [zK, zL, zM]); first | done | rfl | (simp only [zN, zO]; rfl)) ?_
          with_reducible refine (spec_l00In.calls a0_8 a0_6 1000000000000 false _ A38.out).mono ?_
          rintro e w' ⟨rfl, ⟨nd, rfl⟩⟩
          refine ⟨_, rfl, ?_⟩
          refine hK.out _ _ ⟨(yG BK40.out 0).trans rfl, (yG BK40.out 1).trans rfl, (yG BK40.out 2).trans rfl, (yG BK40.out 3).trans rfl, (yG BK40.out 4).trans rfl, (yG BK40.out 5).trans rfl, (yG BK40.out 6).trans rfl, (yG BK40.out 7).trans rfl, (yG BK40.out 8).trans rfl, (yG BK40.out 9).trans rfl, (yG BK40.out 10).trans rfl, (yG BK40.out 11).trans rfl, (yG BK197.out 0).trans rfl, (yG BK197.out 1).trans rfl, (yG BK197.out 2).trans rfl, (yG BK197.out 3).trans rfl⟩ (fun hHeld => ?_)
          clear hK K
          refine norm_ (a' := ?_) ?_ ?_
          rotate_left
          · show Act.put _ (some 52) _ = _
            simp only [Act.put, zH, zI, zJ, i64_w, i32_w]
            rfl
          refine qA 7 53 (bz 52 255) HT_ ?_
          refine qA 8 54 (bz 52 511) HT_ ?_
          refine qB 9 55 (bz 52 1023) HT_ ?_
          refine qB 10 56 (bz 52 2047) HT_ ?_
          refine qB 11 57 (bz 52 4095) HT_ ?_
          refine qB 12 58 (bz 52 8191) HT_ ?_
          refine qB 13 59 (bz 52 16383) HT_ ?_
          refine qB 14 60 (bz 52 32767) HT_ ?_
          refine qB 15 61 (bz 52 65535) HT_ ?_
          refine qB 16 62 (bz 52 131071) HT_ ?_
          refine qA 17 63 (bz 52 262143) HT_ ?_
          refine qA 18 64 (bz 52 524287) HT_ ?_
          refine qB 19 65 (bz 52 1048575) HT_ ?_
          refine qB 20 66 (bz 52 2097151) HT_ ?_
          refine qB 21 67 (bz 52 4194303) HT_ ?_
          refine qB 22 68 (bz 52 8388607) HT_ ?_
          refine qB 23 69 (bz 52 16777215) HT_ ?_
          refine qB 24 70 (bz 52 33554431) HT_ ?_
          refine qA 25 71 (bz 52 67108863) HT_ ?_
          refine qA 26 72 (bz 52 134217727) HT_ ?_
          refine qB 27 73 (bz 52 268435455) HT_ ?_
          refine qB 28 74 (bz 52 536870911) HT_ ?_
          refine qB 29 75 (bz 52 1073741823) HT_ ?_
          refine qB 30 76 (bz 52 2147483647) HT_ ?_
          refine qB 31 77 (bz 52 4294967295) HT_ ?_
          refine qB 32 78 (bz 52 8589934591) HT_ ?_
          refine qA 33 79 (bz 52 17179869183) HT_ ?_
          refine qA 34 80 (bz 52 34359738367) HT_ ?_
          refine qB 35 81 (bz 52 68719476735) HT_ ?_
          refine qB 36 82 (bz 52 137438953471) HT_ ?_
          refine qB 37 83 (bz 52 274877906943) HT_ ?_
          refine qB 38 84 (bz 52 549755813887) HT_ ?_
          refine qB 39 85 (bz 52 1099511627775) HT_ ?_
          refine qB 40 86 (bz 52 2199023255551) HT_ ?_
          refine qB 41 87 (bz 52 4398046511103) HT_ ?_
          refine qA 42 88 (bz 52 8796093022207) HT_ ?_
          refine qA 43 89 (bz 52 17592186044415) HT_ ?_
          refine qB 44 90 (bz 52 35184372088831) HT_ ?_
          refine qB 45 91 (bz 52 70368744177663) HT_ ?_
          refine qB 46 92 (bz 52 140737488355327) HT_ ?_
          refine qB 47 93 (bz 52 281474976710655) HT_ ?_
          refine qB 48 94 (bz 52 562949953421311) HT_ ?_
          refine qB 49 95 (bz 52 1125899906842623) HT_ ?_
          refine qB 50 96 (bz 52 2251799813685247) HT_ ?_
          refine qA 51 97 (bz 52 4503599627370495) HT_ ?_
          refine done_ (done_of HT_.out (by kernel_rfl)) ?_
          try go_wp2
          go_ret
          exact ⟨by first | rfl | (simp <;> rfl) | (simp [*] <;> rfl), by repeat (first | (with_reducible first | exact HB.out | apply yQ | apply yL | apply yP | refine yE ?_ GE40.out | refine yE ?_ GE197.out) | exact HB.out)⟩

end Go.Proofs.Ytjfahjojihlbgaa.PFnExactValidPager
