/- Each Go function here comes to what the plain function of its name says, where that says something. Made by a program of this session, over the print. -/
import Derived.Test.YtfblodggimjoaaaPFnExactSameTypex0
import Derived.Test.YtfblodggimjoaaaPFnExactSameTypex2
namespace Go.Proofs.Ytfblodggimjoaaa.PFnExactSameType
open Go.RowKit Go.Proofs.YtfblodggimjoaaaW.PrintWords Go.Proofs.YtfblodggimjoaaaW.PrintLast Go.Proofs.YtfblodggimjoaaaW.PrintMore
attribute [local go_sem] max2_int min2_int max_two min_two max_three min_three max_four min_four   -- for this text's walks alone
set_option linter.unusedVariables false
set_option linter.unusedSimpArgs false

/-! ### spec_SameType: function 8 -/
mutual
def spec_SameType.j0 : Nat → Bool → Int → Int → Bool → Bool → List ByteArray → List Int → List (S64) → List (S33) → Int → Int → Int → Bool → Bool → List ByteArray → List Int → List (S64) → List (S33) → Int → Option (Bool)
 | 0, _, _, _, _, _, _, _, _, _, _, _, _, _, _, _, _, _, _, _ => none
 | k + 1, x57, x312000, x312001, x312002, x312003, x312004, x312005, x312006, x312007, x312008, x313000, x313001, x313002, x313003, x313004, x313005, x313006, x313007, x313008 => if x57 = true then (some false) else (spec_SameType.l0 k 0 x312000 x312001 x312002 x312003 x312004 x312005 x312006 x312007 x312008 x313000 x313001 x313002 x313003 x313004 x313005 x313006 x313007 x313008)
def spec_SameType.l0 : Nat → Int → Int → Int → Bool → Bool → List ByteArray → List Int → List (S64) → List (S33) → Int → Int → Int → Bool → Bool → List ByteArray → List Int → List (S64) → List (S33) → Int → Option (Bool)
 | 0, _, _, _, _, _, _, _, _, _, _, _, _, _, _, _, _, _, _, _ => none
 | k + 1, x5, x312000, x312001, x312002, x312003, x312004, x312005, x312006, x312007, x312008, x313000, x313001, x313002, x313003, x313004, x313005, x313006, x313007, x313008 => if x5 < (x312006.length : Int) then (if 0 ≤ x5 then (if x5 < (x313006.length : Int) then (if ((rd_T64 x312006 x5).f0).toList = ((rd_T64 x313006 x5).f0).toList then (if ((rd_T64 x312006 x5).f1) = ((rd_T64 x313006 x5).f1) then ((spec_SameType.f k ((rd_T64 x312006 x5).f2.f0) ((rd_T64 x312006 x5).f2.f1) ((rd_T64 x312006 x5).f2.f2) ((rd_T64 x312006 x5).f2.f3) ((rd_T64 x312006 x5).f2.f4) ((rd_T64 x312006 x5).f2.f5) ((rd_T64 x312006 x5).f2.f6) ((rd_T64 x312006 x5).f2.f7) ((rd_T64 x312006 x5).f2.f8) ((rd_T64 x313006 x5).f2.f0) ((rd_T64 x313006 x5).f2.f1) ((rd_T64 x313006 x5).f2.f2) ((rd_T64 x313006 x5).f2.f3) ((rd_T64 x313006 x5).f2.f4) ((rd_T64 x313006 x5).f2.f5) ((rd_T64 x313006 x5).f2.f6) ((rd_T64 x313006 x5).f2.f7) ((rd_T64 x313006 x5).f2.f8)).bind fun t319 => (if t319 = true then (spec_SameType.l0 k (wrap64 (x5 + 1)) x312000 x312001 x312002 x312003 x312004 x312005 x312006 x312007 x312008 x313000 x313001 x313002 x313003 x313004 x313005 x313006 x313007 x313008) else (some false))) else (some false)) else (some false)) else (none)) else (none)) else (spec_SameType.l1 k 0 x312000 x312001 x312002 x312003 x312004 x312005 x312006 x312007 x312008 x313000 x313001 x313002 x313003 x313004 x313005 x313006 x313007 x313008)
def spec_SameType.l1 : Nat → Int → Int → Int → Bool → Bool → List ByteArray → List Int → List (S64) → List (S33) → Int → Int → Int → Bool → Bool → List ByteArray → List Int → List (S64) → List (S33) → Int → Option (Bool)
 | 0, _, _, _, _, _, _, _, _, _, _, _, _, _, _, _, _, _, _, _ => none
 | k + 1, x6, x312000, x312001, x312002, x312003, x312004, x312005, x312006, x312007, x312008, x313000, x313001, x313002, x313003, x313004, x313005, x313006, x313007, x313008 => if x6 < (x312007.length : Int) then (if 0 ≤ x6 then (if x6 < (x313007.length : Int) then ((spec_SameType.f k ((rd_T33 x312007 x6).f0) ((rd_T33 x312007 x6).f1) ((rd_T33 x312007 x6).f2) ((rd_T33 x312007 x6).f3) ((rd_T33 x312007 x6).f4) ((rd_T33 x312007 x6).f5) ((rd_T33 x312007 x6).f6) ((rd_T33 x312007 x6).f7) ((rd_T33 x312007 x6).f8) ((rd_T33 x313007 x6).f0) ((rd_T33 x313007 x6).f1) ((rd_T33 x313007 x6).f2) ((rd_T33 x313007 x6).f3) ((rd_T33 x313007 x6).f4) ((rd_T33 x313007 x6).f5) ((rd_T33 x313007 x6).f6) ((rd_T33 x313007 x6).f7) ((rd_T33 x313007 x6).f8)).bind fun t322 => (if t322 = true then (spec_SameType.l1 k (wrap64 (x6 + 1)) x312000 x312001 x312002 x312003 x312004 x312005 x312006 x312007 x312008 x313000 x313001 x313002 x313003 x313004 x313005 x313006 x313007 x313008) else (some false))) else (none)) else (none)) else ((spec_l02Texts.f k x312004 x313004).bind fun t323 => (if t323 = true then ((spec_l02Ints.f k x312005 x313005).bind fun t324 => (some t324)) else (some false)))
def spec_SameType.f : Nat → Int → Int → Bool → Bool → List ByteArray → List Int → List (S64) → List (S33) → Int → Int → Int → Bool → Bool → List ByteArray → List Int → List (S64) → List (S33) → Int → Option (Bool)
 | 0, _, _, _, _, _, _, _, _, _, _, _, _, _, _, _, _, _, _ => none
 | k + 1, a0_0, a0_1, a0_2, a0_3, l0_4, l0_5, l0_6, l0_7, a0_8, a1_0, a1_1, a1_2, a1_3, l1_4, l1_5, l1_6, l1_7, a1_8 => if a0_0 = a1_0 then (if a0_1 = a1_1 then (if (a0_2 != a1_2) = true then (spec_SameType.j0 k true a0_0 a0_1 a0_2 a0_3 l0_4 l0_5 l0_6 l0_7 a0_8 a1_0 a1_1 a1_2 a1_3 l1_4 l1_5 l1_6 l1_7 a1_8) else (if (a0_3 != a1_3) = true then (spec_SameType.j0 k true a0_0 a0_1 a0_2 a0_3 l0_4 l0_5 l0_6 l0_7 a0_8 a1_0 a1_1 a1_2 a1_3 l1_4 l1_5 l1_6 l1_7 a1_8) else (if a0_8 = a1_8 then (if (l0_6.length : Int) = (l1_6.length : Int) then (spec_SameType.j0 k ((l0_7.length : Int) != (l1_7.length : Int)) a0_0 a0_1 a0_2 a0_3 l0_4 l0_5 l0_6 l0_7 a0_8 a1_0 a1_1 a1_2 a1_3 l1_4 l1_5 l1_6 l1_7 a1_8) else (spec_SameType.j0 k true a0_0 a0_1 a0_2 a0_3 l0_4 l0_5 l0_6 l0_7 a0_8 a1_0 a1_1 a1_2 a1_3 l1_4 l1_5 l1_6 l1_7 a1_8)) else (spec_SameType.j0 k true a0_0 a0_1 a0_2 a0_3 l0_4 l0_5 l0_6 l0_7 a0_8 a1_0 a1_1 a1_2 a1_3 l1_4 l1_5 l1_6 l1_7 a1_8)))) else (spec_SameType.j0 k true a0_0 a0_1 a0_2 a0_3 l0_4 l0_5 l0_6 l0_7 a0_8 a1_0 a1_1 a1_2 a1_3 l1_4 l1_5 l1_6 l1_7 a1_8)) else (spec_SameType.j0 k true a0_0 a0_1 a0_2 a0_3 l0_4 l0_5 l0_6 l0_7 a0_8 a1_0 a1_1 a1_2 a1_3 l1_4 l1_5 l1_6 l1_7 a1_8)
end
def spec_SameType.T6 : Bool × List (List Nat × List Nat) := (true, [([], []), ([0], [0]), ([], []), ([1, 2], [1, 2]), ([3], [3]), ([4], [4]), ([], []), ([6], [6]), ([], []), ([7, 8], [7, 8]), ([9], [9]), ([10], [10]), ([5, 11], [5, 11]), ([12], [12]), ([13], [13]), ([14, 13], [13, 14]), ([13], [13]), ([15, 16, 13], [13, 15, 16]), ([17, 13], [13, 17]), ([18, 13], [13, 18]), ([13], [13]), ([20, 13], [13, 20]), ([13], [13]), ([21, 22, 13], [13, 21, 22]), ([23, 13], [13, 23]), ([24, 13], [13, 24]), ([19, 25, 13], [13, 19, 25]), ([13, 26], [13, 26]), ([27, 13], [27]), ([28], [28]), ([29, 28], [28, 29]), ([28], [28]), ([30, 31, 28], [28, 30, 31]), ([32, 28], [28, 32]), ([33, 28], [28, 33]), ([28], [28]), ([35, 28], [28, 35]), ([28], [28]), ([36, 37, 28], [28, 36, 37]), ([38, 28], [28, 38]), ([39, 28], [28, 39]), ([34, 40, 28, 28], [28, 34, 40]), ([41, 28], [28, 41]), ([28, 42], [28, 42])])
def spec_SameType.B6 : List Nat := [0, 1, 0, 7, 15, 31, 0, 64, 0, 448, 960, 1984, 4095, 8191, 16383, 32767, 16383, 131071, 262143, 524287, 16383, 1064959, 16383, 7356415, 15745023, 32522239, 67108863, 134217727, 268435455, 536870911, 1073741823, 536870911, 4294967295, 8589934591, 17179869183, 536870911, 34896609279, 536870911, 241055039487, 515932946431, 1065688760319, 2199023255551, 4398046511103, 8796093022207]
theorem spec_SameType.tab6 : rtab .any (opsOf Try.f8 6) = spec_SameType.T6 := by kernel_rfl
theorem spec_SameType.bits6 : waitsOk spec_SameType.T6.2 spec_SameType.B6 = true := by kernel_rfl
def spec_SameType.T11 : Bool × List (List Nat × List Nat) := (true, [([], []), ([0], [0]), ([], []), ([1, 2], [1, 2]), ([3], [3]), ([], []), ([5], [5]), ([], []), ([6, 7], [6, 7]), ([8], [8]), ([4, 9], [4, 9]), ([10], [10])])
def spec_SameType.B11 : List Nat := [0, 1, 0, 7, 15, 0, 32, 0, 224, 480, 1023, 2047]
theorem spec_SameType.tab11 : rtab .any (opsOf Try.f8 11) = spec_SameType.T11 := by kernel_rfl
theorem spec_SameType.bits11 : waitsOk spec_SameType.T11.2 spec_SameType.B11 = true := by kernel_rfl
set_option maxHeartbeats 8000000 in
set_option maxRecDepth 100000 in
theorem spec_SameType.calls (k : Nat) : ∀ (a0_0 : Int) (a0_1 : Int) (a0_2 : Bool) (a0_3 : Bool) (A0_4 : Option Addr) (c0_4 : Nat) (l0_4 : List ByteArray) (A0_5 : Option Addr) (c0_5 : Nat) (l0_5 : List Int) (A0_6 : Option Addr) (c0_6 : Nat) (l0_6 : List (S64)) (A0_7 : Option Addr) (c0_7 : Nat) (l0_7 : List (S33)) (a0_8 : Int) (a1_0 : Int) (a1_1 : Int) (a1_2 : Bool) (a1_3 : Bool) (A1_4 : Option Addr) (c1_4 : Nat) (l1_4 : List ByteArray) (A1_5 : Option Addr) (c1_5 : Nat) (l1_5 : List Int) (A1_6 : Option Addr) (c1_6 : Nat) (l1_6 : List (S64)) (A1_7 : Option Addr) (c1_7 : Nat) (l1_7 : List (S33)) (a1_8 : Int) (r : Bool) (w : World) (hr0_4 : Kd.C Kd.string w A0_4 l0_4.length l0_4) (hc0_4 : l0_4.length ≤ c0_4) (hr0_5 : Kd.C (Kd.int .i64) w A0_5 l0_5.length l0_5) (hc0_5 : l0_5.length ≤ c0_5) (hr0_6 : Kd.C k64 w A0_6 l0_6.length l0_6) (hc0_6 : l0_6.length ≤ c0_6) (hr0_7 : Kd.C k33 w A0_7 l0_7.length l0_7) (hc0_7 : l0_7.length ≤ c0_7) (hr1_4 : Kd.C Kd.string w A1_4 l1_4.length l1_4) (hc1_4 : l1_4.length ≤ c1_4) (hr1_5 : Kd.C (Kd.int .i64) w A1_5 l1_5.length l1_5) (hc1_5 : l1_5.length ≤ c1_5) (hr1_6 : Kd.C k64 w A1_6 l1_6.length l1_6) (hc1_6 : l1_6.length ≤ c1_6) (hr1_7 : Kd.C k33 w A1_7 l1_7.length l1_7) (hc1_7 : l1_7.length ≤ c1_7) (h : spec_SameType.f k a0_0 a0_1 a0_2 a0_3 l0_4 l0_5 l0_6 l0_7 a0_8 a1_0 a1_1 a1_2 a1_3 l1_4 l1_5 l1_6 l1_7 a1_8 = some r),
 Calls Try.prog 8 #[.agg #[.int .i64 a0_0, .int .i64 a0_1, .bool a0_2, .bool a0_3, .slice A0_4 l0_4.length c0_4, .slice A0_5 l0_5.length c0_5, .slice A0_6 l0_6.length c0_6, .slice A0_7 l0_7.length c0_7, .int .i64 a0_8], .agg #[.int .i64 a1_0, .int .i64 a1_1, .bool a1_2, .bool a1_3, .slice A1_4 l1_4.length c1_4, .slice A1_5 l1_5.length c1_5, .slice A1_6 l1_6.length c1_6, .slice A1_7 l1_7.length c1_7, .int .i64 a1_8]] w fun e w' => e = .returned (.bool r) ∧ Below w.heap.size w w' := by
 induction k using Nat.strongRecOn with
 | _ k ih =>
 intro a0_0 a0_1 a0_2 a0_3 A0_4 c0_4 l0_4 A0_5 c0_5 l0_5 A0_6 c0_6 l0_6 A0_7 c0_7 l0_7 a0_8 a1_0 a1_1 a1_2 a1_3 A1_4 c1_4 l1_4 A1_5 c1_5 l1_5 A1_6 c1_6 l1_6 A1_7 c1_7 l1_7 a1_8 r w hr0_4 hc0_4 hr0_5 hc0_5 hr0_6 hc0_6 hr0_7 hc0_7 hr1_4 hc1_4 hr1_5 hc1_5 hr1_6 hc1_6 hr1_7 hc1_7 h
 cases k with
 | zero => exact absurd h (by simp [spec_SameType.f])
 | succ k =>
 simp only [spec_SameType.f] at h
 have hu33 := Try.underlying33
 have HR0_4 := yD hr0_4
 have HC0_4 := yD hc0_4
 clear hr0_4 hc0_4
 have HR0_5 := yD hr0_5
 have HC0_5 := yD hc0_5
 clear hr0_5 hc0_5
 have HR0_6 := yD hr0_6
 have HC0_6 := yD hc0_6
 clear hr0_6 hc0_6
 have HR0_7 := yD hr0_7
 have HC0_7 := yD hc0_7
 clear hr0_7 hc0_7
 have HR1_4 := yD hr1_4
 have HC1_4 := yD hc1_4
 clear hr1_4 hc1_4
 have HR1_5 := yD hr1_5
 have HC1_5 := yD hc1_5
 clear hr1_5 hc1_5
 have HR1_6 := yD hr1_6
 have HC1_6 := yD hc1_6
 clear hr1_6 hc1_6
 have HR1_7 := yD hr1_7
 have HC1_7 := yD hc1_7
 clear hr1_7 hc1_7
 have HB := yD (Below.refl w.heap.size w)
 have H : (if a0_0 = a1_0 then (if a0_1 = a1_1 then (if (a0_2 != a1_2) = true then (spec_SameType.j0 k true a0_0 a0_1 a0_2 a0_3 l0_4 l0_5 l0_6 l0_7 a0_8 a1_0 a1_1 a1_2 a1_3 l1_4 l1_5 l1_6 l1_7 a1_8) else (if (a0_3 != a1_3) = true then (spec_SameType.j0 k true a0_0 a0_1 a0_2 a0_3 l0_4 l0_5 l0_6 l0_7 a0_8 a1_0 a1_1 a1_2 a1_3 l1_4 l1_5 l1_6 l1_7 a1_8) else (if a0_8 = a1_8 then (if (l0_6.length : Int) = (l1_6.length : Int) then (spec_SameType.j0 k ((l0_7.length : Int) != (l1_7.length : Int)) a0_0 a0_1 a0_2 a0_3 l0_4 l0_5 l0_6 l0_7 a0_8 a1_0 a1_1 a1_2 a1_3 l1_4 l1_5 l1_6 l1_7 a1_8) else (spec_SameType.j0 k true a0_0 a0_1 a0_2 a0_3 l0_4 l0_5 l0_6 l0_7 a0_8 a1_0 a1_1 a1_2 a1_3 l1_4 l1_5 l1_6 l1_7 a1_8)) else (spec_SameType.j0 k true a0_0 a0_1 a0_2 a0_3 l0_4 l0_5 l0_6 l0_7 a0_8 a1_0 a1_1 a1_2 a1_3 l1_4 l1_5 l1_6 l1_7 a1_8)))) else (spec_SameType.j0 k true a0_0 a0_1 a0_2 a0_3 l0_4 l0_5 l0_6 l0_7 a0_8 a1_0 a1_1 a1_2 a1_3 l1_4 l1_5 l1_6 l1_7 a1_8)) else (spec_SameType.j0 k true a0_0 a0_1 a0_2 a0_3 l0_4 l0_5 l0_6 l0_7 a0_8 a1_0 a1_1 a1_2 a1_3 l1_4 l1_5 l1_6 l1_7 a1_8)) = some r := h
 clear h
 have HC3 := yD H
 clear H; go_enter Try.func8, Try.ntmps8
 go_upto_region 1 with (first | ((with_reducible refine gate_dst (N := 2) rfl ?_); (try (refine gate_guard (by rfl) ?_; dsimp only)); refine box_event ?hg (N := 2) ?hd (cs := #[.int .i64 a0_0, .int .i64 a0_1, .bool a0_2, .bool a0_3, .slice A0_4 l0_4.length c0_4, .slice A0_5 l0_5.length c0_5, .slice A0_6 l0_6.length c0_6, .slice A0_7 l0_7.length c0_7, .int .i64 a0_8]) (t := 33) ?hr ?_; (case hd => rfl); (case hg => rfl); (case hr => first | (go_simp; done) | (go_simp; rfl)); intro gb311 hg w4 hbox hb; have BK311 := yD (hbox); have GW311 := yD ((by rw [hg]; exact (below_size (kB HB)) : w.heap.size ≤ gb311)); have GE311 := yD ((by rw [hg]; exact (below_size (kB HB)) : w.heap.size ≤ gb311)); replace HB := yD (zC (kB HB) hb); clear hb hbox hg) | ((with_reducible refine gate_dst (N := 3) rfl ?_); (try (refine gate_guard (by rfl) ?_; dsimp only)); refine box_event ?hg (N := 3) ?hd (cs := #[.int .i64 a1_0, .int .i64 a1_1, .bool a1_2, .bool a1_3, .slice A1_4 l1_4.length c1_4, .slice A1_5 l1_5.length c1_5, .slice A1_6 l1_6.length c1_6, .slice A1_7 l1_7.length c1_7, .int .i64 a1_8]) (t := 33) ?hr ?_; (case hd => rfl); (case hg => rfl); (case hr => first | (go_simp; done) | (go_simp; rfl)); intro gb312 hg w5 hbox hb; have BK312 := yD (hbox); have GW312 := yD ((by rw [hg]; exact (below_size (kB HB)) : w.heap.size ≤ gb312)); have GE312 := yD ((by rw [hg]; exact (below_size (kB HB)) : w.heap.size ≤ gb312)); replace HB := yD (zC (kB HB) hb); have NB311_312 := yD ((by rw [hg]; exact Nat.ne_of_lt (blk_lt (kN BK311)) : gb311 ≠ gb312)); have NB312_311 := yD ((by rw [hg]; exact Nat.ne_of_gt (blk_lt (kN BK311)) : gb312 ≠ gb311)); replace BK311 := yD (zB (kN BK311) hb); clear hb hbox hg))
 (try simp only [Act.put, zH, zI, zJ])
 go_cut [57] (fun v57 wc => ∃ (kq : Nat) (x57_2 : Bool), v57 = .bool x57_2 ∧ Aside0 (spec_SameType.j0 kq x57_2 a0_0 a0_1 a0_2 a0_3 l0_4 l0_5 l0_6 l0_7 a0_8 a1_0 a1_1 a1_2 a1_3 l1_4 l1_5 l1_6 l1_7 a1_8 = some r) ∧ Aside0 (kq ≤ k) ∧ Aside0 (wc.heap[gb311]? = some (.cells #[.int .i64 a0_0, .int .i64 a0_1, .bool a0_2, .bool a0_3, (.slice A0_4 l0_4.length c0_4), (.slice A0_5 l0_5.length c0_5), (.slice A0_6 l0_6.length c0_6), (.slice A0_7 l0_7.length c0_7), .int .i64 a0_8] 33 (0, 0))) ∧ Aside0 (wc.heap[gb312]? = some (.cells #[.int .i64 a1_0, .int .i64 a1_1, .bool a1_2, .bool a1_3, (.slice A1_4 l1_4.length c1_4), (.slice A1_5 l1_5.length c1_5), (.slice A1_6 l1_6.length c1_6), (.slice A1_7 l1_7.length c1_7), .int .i64 a1_8] 33 (0, 0))) ∧ Aside0 (Below w.heap.size w wc))
 case first =>
  have H := HC3.out; clear HC3
  by_cases c6 : a0_0 = a1_0
  ·
   rw [if_pos c6] at H
   have c6b0 : (a0_0 == a1_0) = true := beq_iff_eq.mpr c6
   have c6b1 : (a0_0 != a1_0) = false := bne_eq_false_iff_eq.mpr c6
   clear c6
   (first | rw [c6b0] | (simp only [i64_w, i32_w]; rw [c6b0]) | (simp only [bne] at c6b0; rw [c6b0]) | skip)
   by_cases c7 : a0_1 = a1_1
   ·
    rw [if_pos c7] at H
    have c7b0 : (a0_1 == a1_1) = true := beq_iff_eq.mpr c7
    have c7b1 : (a0_1 != a1_1) = false := bne_eq_false_iff_eq.mpr c7
    clear c7
    by_cases c8 : (a0_2 != a1_2) = true
    ·
     rw [if_pos c8] at H
     have c8b0 : (a0_2 != a1_2) = true := c8
     (try (have c8b1 : decide (a0_2 = a1_2) = false := by simpa using c8))
     (try (have c8b2 : (a0_2 == a1_2) = false := by simpa using c8))
     (try (have c8b3 : ¬ (a0_2 = a1_2) := by simpa using c8))
     clear c8
     have H' := yD H
     clear H; have hnb9 := NB311_312.out; have hnc9 := NB312_311.out
     obtain ⟨hcz10_0, hcz10_1, hcz10_2, hcz10_3, hcz10_4, hcz10_5, hcz10_6, hcz10_7, hcz10_8⟩ := cz9 BK311.out
     obtain ⟨hfz10_0, hfz10_1, hfz10_2, hfz10_3, hfz10_4, hfz10_5, hfz10_6, hfz10_7, hfz10_8⟩ := fz9 BK311.out
     obtain ⟨hcz11_0, hcz11_1, hcz11_2, hcz11_3, hcz11_4, hcz11_5, hcz11_6, hcz11_7, hcz11_8⟩ := cz9 BK312.out
     obtain ⟨hfz11_0, hfz11_1, hfz11_2, hfz11_3, hfz11_4, hfz11_5, hfz11_6, hfz11_7, hfz11_8⟩ := fz9 BK312.out
     go_wp2
     go_meet
     case rel => exact ⟨_, (true), (by first | rfl | (simp; done) | (simp [*]; done)), H', ⟨by first | omega | exact Nat.le_refl _⟩, ⟨kM BK311⟩, ⟨kM BK312⟩, ⟨kR0 HB⟩⟩
    ·
     rw [if_neg c8] at H
     have c8b0 : (a0_2 != a1_2) = false := by simpa using c8
     (try (have c8b1 : decide (a0_2 = a1_2) = true := by simpa using c8))
     (try (have c8b2 : (a0_2 == a1_2) = true := by simpa using c8))
     clear c8
     by_cases c12 : (a0_3 != a1_3) = true
     ·
      rw [if_pos c12] at H
      have c12b0 : (a0_3 != a1_3) = true := c12
      (try (have c12b1 : decide (a0_3 = a1_3) = false := by simpa using c12))
      (try (have c12b2 : (a0_3 == a1_3) = false := by simpa using c12))
      (try (have c12b3 : ¬ (a0_3 = a1_3) := by simpa using c12))
      clear c12
      have H' := yD H
      clear H; have hnb13 := NB311_312.out; have hnc13 := NB312_311.out
      obtain ⟨hcz14_0, hcz14_1, hcz14_2, hcz14_3, hcz14_4, hcz14_5, hcz14_6, hcz14_7, hcz14_8⟩ := cz9 BK311.out
      obtain ⟨hfz14_0, hfz14_1, hfz14_2, hfz14_3, hfz14_4, hfz14_5, hfz14_6, hfz14_7, hfz14_8⟩ := fz9 BK311.out
      obtain ⟨hcz15_0, hcz15_1, hcz15_2, hcz15_3, hcz15_4, hcz15_5, hcz15_6, hcz15_7, hcz15_8⟩ := cz9 BK312.out
      obtain ⟨hfz15_0, hfz15_1, hfz15_2, hfz15_3, hfz15_4, hfz15_5, hfz15_6, hfz15_7, hfz15_8⟩ := fz9 BK312.out
      go_wp2
      go_meet
      case rel => exact ⟨_, (true), (by first | rfl | (simp; done) | (simp [*]; done)), H', ⟨by first | omega | exact Nat.le_refl _⟩, ⟨kM BK311⟩, ⟨kM BK312⟩, ⟨kR0 HB⟩⟩
     ·
      rw [if_neg c12] at H
      have c12b0 : (a0_3 != a1_3) = false := by simpa using c12
      (try (have c12b1 : decide (a0_3 = a1_3) = true := by simpa using c12))
      (try (have c12b2 : (a0_3 == a1_3) = true := by simpa using c12))
      clear c12
      by_cases c16 : a0_8 = a1_8
      ·
       rw [if_pos c16] at H
       have c16b0 : (a0_8 == a1_8) = true := beq_iff_eq.mpr c16
       have c16b1 : (a0_8 != a1_8) = false := bne_eq_false_iff_eq.mpr c16
       clear c16
       by_cases c17 : (l0_6.length : Int) = (l1_6.length : Int)
       ·
        rw [if_pos c17] at H
        have c17b0 : ((l0_6.length : Int) == (l1_6.length : Int)) = true := beq_iff_eq.mpr c17
        have c17b1 : ((l0_6.length : Int) != (l1_6.length : Int)) = false := bne_eq_false_iff_eq.mpr c17
        have c17b2 : (l0_6.length == l1_6.length) = true := by first | simpa using c17 | (simp at c17 ⊢; omega)
        clear c17
        have H' := yD H
        clear H; have hnb18 := NB311_312.out; have hnc18 := NB312_311.out
        obtain ⟨hcz19_0, hcz19_1, hcz19_2, hcz19_3, hcz19_4, hcz19_5, hcz19_6, hcz19_7, hcz19_8⟩ := cz9 BK311.out
        obtain ⟨hfz19_0, hfz19_1, hfz19_2, hfz19_3, hfz19_4, hfz19_5, hfz19_6, hfz19_7, hfz19_8⟩ := fz9 BK311.out
        obtain ⟨hcz20_0, hcz20_1, hcz20_2, hcz20_3, hcz20_4, hcz20_5, hcz20_6, hcz20_7, hcz20_8⟩ := cz9 BK312.out
        obtain ⟨hfz20_0, hfz20_1, hfz20_2, hfz20_3, hfz20_4, hfz20_5, hfz20_6, hfz20_7, hfz20_8⟩ := fz9 BK312.out
        go_wp2
        go_meet
        case rel => exact ⟨_, (((l0_7.length : Int) != (l1_7.length : Int))), (by first | rfl | (simp; done) | (simp [*]; done)), H', ⟨by first | omega | exact Nat.le_refl _⟩, ⟨kM BK311⟩, ⟨kM BK312⟩, ⟨kR0 HB⟩⟩
       ·
        rw [if_neg c17] at H
        have c17b0 : ((l0_6.length : Int) == (l1_6.length : Int)) = false := beq_eq_false_iff_ne.mpr c17
        have c17b1 : ((l0_6.length : Int) != (l1_6.length : Int)) = true := bne_iff_ne.mpr c17
        have c17b2 : (l0_6.length == l1_6.length) = false := by first | simpa using c17 | (simp at c17 ⊢; omega)
        have H' := yD H
        clear H; have hnb21 := NB311_312.out; have hnc21 := NB312_311.out
        obtain ⟨hcz22_0, hcz22_1, hcz22_2, hcz22_3, hcz22_4, hcz22_5, hcz22_6, hcz22_7, hcz22_8⟩ := cz9 BK311.out
        obtain ⟨hfz22_0, hfz22_1, hfz22_2, hfz22_3, hfz22_4, hfz22_5, hfz22_6, hfz22_7, hfz22_8⟩ := fz9 BK311.out
        obtain ⟨hcz23_0, hcz23_1, hcz23_2, hcz23_3, hcz23_4, hcz23_5, hcz23_6, hcz23_7, hcz23_8⟩ := cz9 BK312.out
        obtain ⟨hfz23_0, hfz23_1, hfz23_2, hfz23_3, hfz23_4, hfz23_5, hfz23_6, hfz23_7, hfz23_8⟩ := fz9 BK312.out
        go_wp2
        go_meet
        case rel => exact ⟨_, (true), (by first | rfl | (simp; done) | (simp [*]; done)), H', ⟨by first | omega | exact Nat.le_refl _⟩, ⟨kM BK311⟩, ⟨kM BK312⟩, ⟨kR0 HB⟩⟩
      ·
       rw [if_neg c16] at H
       have c16b0 : (a0_8 == a1_8) = false := beq_eq_false_iff_ne.mpr c16
       have c16b1 : (a0_8 != a1_8) = true := bne_iff_ne.mpr c16
       have H' := yD H
       clear H; have hnb24 := NB311_312.out; have hnc24 := NB312_311.out
       obtain ⟨hcz25_0, hcz25_1, hcz25_2, hcz25_3, hcz25_4, hcz25_5, hcz25_6, hcz25_7, hcz25_8⟩ := cz9 BK311.out
       obtain ⟨hfz25_0, hfz25_1, hfz25_2, hfz25_3, hfz25_4, hfz25_5, hfz25_6, hfz25_7, hfz25_8⟩ := fz9 BK311.out
       obtain ⟨hcz26_0, hcz26_1, hcz26_2, hcz26_3, hcz26_4, hcz26_5, hcz26_6, hcz26_7, hcz26_8⟩ := cz9 BK312.out
       obtain ⟨hfz26_0, hfz26_1, hfz26_2, hfz26_3, hfz26_4, hfz26_5, hfz26_6, hfz26_7, hfz26_8⟩ := fz9 BK312.out
       go_wp2
       go_meet
       case rel => exact ⟨_, (true), (by first | rfl | (simp; done) | (simp [*]; done)), H', ⟨by first | omega | exact Nat.le_refl _⟩, ⟨kM BK311⟩, ⟨kM BK312⟩, ⟨kR0 HB⟩⟩
   ·
    rw [if_neg c7] at H
    have c7b0 : (a0_1 == a1_1) = false := beq_eq_false_iff_ne.mpr c7
    have c7b1 : (a0_1 != a1_1) = true := bne_iff_ne.mpr c7
    have H' := yD H
    clear H; have hnb27 := NB311_312.out; have hnc27 := NB312_311.out
    obtain ⟨hcz28_0, hcz28_1, hcz28_2, hcz28_3, hcz28_4, hcz28_5, hcz28_6, hcz28_7, hcz28_8⟩ := cz9 BK311.out
    obtain ⟨hfz28_0, hfz28_1, hfz28_2, hfz28_3, hfz28_4, hfz28_5, hfz28_6, hfz28_7, hfz28_8⟩ := fz9 BK311.out
    obtain ⟨hcz29_0, hcz29_1, hcz29_2, hcz29_3, hcz29_4, hcz29_5, hcz29_6, hcz29_7, hcz29_8⟩ := cz9 BK312.out
    obtain ⟨hfz29_0, hfz29_1, hfz29_2, hfz29_3, hfz29_4, hfz29_5, hfz29_6, hfz29_7, hfz29_8⟩ := fz9 BK312.out
    go_wp2
    go_meet
    case rel => exact ⟨_, (true), (by first | rfl | (simp; done) | (simp [*]; done)), H', ⟨by first | omega | exact Nat.le_refl _⟩, ⟨kM BK311⟩, ⟨kM BK312⟩, ⟨kR0 HB⟩⟩
  ·
   rw [if_neg c6] at H
   have c6b0 : (a0_0 == a1_0) = false := beq_eq_false_iff_ne.mpr c6
   have c6b1 : (a0_0 != a1_0) = true := bne_iff_ne.mpr c6
   (first | rw [c6b0] | (simp only [i64_w, i32_w]; rw [c6b0]) | (simp only [bne] at c6b0; rw [c6b0]) | skip)
   have H' := yD H
   clear H; have hnb30 := NB311_312.out; have hnc30 := NB312_311.out
   obtain ⟨hcz31_0, hcz31_1, hcz31_2, hcz31_3, hcz31_4, hcz31_5, hcz31_6, hcz31_7, hcz31_8⟩ := cz9 BK311.out
   obtain ⟨hfz31_0, hfz31_1, hfz31_2, hfz31_3, hfz31_4, hfz31_5, hfz31_6, hfz31_7, hfz31_8⟩ := fz9 BK311.out
   obtain ⟨hcz32_0, hcz32_1, hcz32_2, hcz32_3, hcz32_4, hcz32_5, hcz32_6, hcz32_7, hcz32_8⟩ := cz9 BK312.out
   obtain ⟨hfz32_0, hfz32_1, hfz32_2, hfz32_3, hfz32_4, hfz32_5, hfz32_6, hfz32_7, hfz32_8⟩ := fz9 BK312.out
   go_wp2
   go_meet
   case rel => exact ⟨_, (true), (by first | rfl | (simp; done) | (simp [*]; done)), H', ⟨by first | omega | exact Nat.le_refl _⟩, ⟨kM BK311⟩, ⟨kM BK312⟩, ⟨kR0 HB⟩⟩
 case rest =>
  clear HC3; try clear c6; try clear c6b0; try clear c6b1; try clear c7; try clear c7b0; try clear c7b1; try clear c8; try clear c8b0; try clear c8b1; try clear c8b2; try clear c12; try clear c12b0; try clear c12b1; try clear c12b2; try clear c16; try clear c16b0; try clear c16b1; try clear c17; try clear c17b0; try clear c17b1; try clear c17b2; try clear hcz10_0; try clear hcz10_1; try clear hcz10_2; try clear hcz10_3; try clear hcz10_4; try clear hcz10_5; try clear hcz10_6; try clear hcz10_7; try clear hcz10_8; try clear hcz11_0; try clear hcz11_1; try clear hcz11_2; try clear hcz11_3; try clear hcz11_4; try clear hcz11_5; try clear hcz11_6; try clear hcz11_7; try clear hcz11_8; try clear hcz14_0; try clear hcz14_1; try clear hcz14_2; try clear hcz14_3; try clear hcz14_4; try clear hcz14_5; try clear hcz14_6; try clear hcz14_7; try clear hcz14_8; try clear hcz15_0; try clear hcz15_1; try clear hcz15_2; try clear hcz15_3; try clear hcz15_4; try clear hcz15_5; try clear hcz15_6; try clear hcz15_7; try clear hcz15_8; try clear hcz19_0; try clear hcz19_1; try clear hcz19_2; try clear hcz19_3; try clear hcz19_4; try clear hcz19_5; try clear hcz19_6; try clear hcz19_7; try clear hcz19_8; try clear hcz20_0; try clear hcz20_1; try clear hcz20_2; try clear hcz20_3; try clear hcz20_4; try clear hcz20_5; try clear hcz20_6; try clear hcz20_7; try clear hcz20_8; try clear hcz22_0; try clear hcz22_1; try clear hcz22_2; try clear hcz22_3; try clear hcz22_4; try clear hcz22_5; try clear hcz22_6; try clear hcz22_7; try clear hcz22_8; try clear hcz23_0; try clear hcz23_1; try clear hcz23_2; try clear hcz23_3; try clear hcz23_4; try clear hcz23_5; try clear hcz23_6; try clear hcz23_7; try clear hcz23_8; try clear hcz25_0; try clear hcz25_1; try clear hcz25_2; try clear hcz25_3; try clear hcz25_4; try clear hcz25_5; try clear hcz25_6; try clear hcz25_7; try clear hcz25_8; try clear hcz26_0; try clear hcz26_1; try clear hcz26_2; try clear hcz26_3; try clear hcz26_4; try clear hcz26_5; try clear hcz26_6; try clear hcz26_7; try clear hcz26_8; try clear hcz28_0; try clear hcz28_1; try clear hcz28_2; try clear hcz28_3; try clear hcz28_4; try clear hcz28_5; try clear hcz28_6; try clear hcz28_7; try clear hcz28_8; try clear hcz29_0; try clear hcz29_1; try clear hcz29_2; try clear hcz29_3; try clear hcz29_4; try clear hcz29_5; try clear hcz29_6; try clear hcz29_7; try clear hcz29_8; try clear hcz31_0; try clear hcz31_1; try clear hcz31_2; try clear hcz31_3; try clear hcz31_4; try clear hcz31_5; try clear hcz31_6; try clear hcz31_7; try clear hcz31_8; try clear hcz32_0; try clear hcz32_1; try clear hcz32_2; try clear hcz32_3; try clear hcz32_4; try clear hcz32_5; try clear hcz32_6; try clear hcz32_7; try clear hcz32_8; try clear hfz10_0; try clear hfz10_1; try clear hfz10_2; try clear hfz10_3; try clear hfz10_4; try clear hfz10_5; try clear hfz10_6; try clear hfz10_7; try clear hfz10_8; try clear hfz11_0; try clear hfz11_1; try clear hfz11_2; try clear hfz11_3; try clear hfz11_4; try clear hfz11_5; try clear hfz11_6; try clear hfz11_7; try clear hfz11_8; try clear hfz14_0; try clear hfz14_1; try clear hfz14_2; try clear hfz14_3; try clear hfz14_4; try clear hfz14_5; try clear hfz14_6; try clear hfz14_7; try clear hfz14_8; try clear hfz15_0; try clear hfz15_1; try clear hfz15_2; try clear hfz15_3; try clear hfz15_4; try clear hfz15_5; try clear hfz15_6; try clear hfz15_7; try clear hfz15_8; try clear hfz19_0; try clear hfz19_1; try clear hfz19_2; try clear hfz19_3; try clear hfz19_4; try clear hfz19_5; try clear hfz19_6; try clear hfz19_7; try clear hfz19_8; try clear hfz20_0; try clear hfz20_1; try clear hfz20_2; try clear hfz20_3; try clear hfz20_4; try clear hfz20_5; try clear hfz20_6; try clear hfz20_7; try clear hfz20_8; try clear hfz22_0; try clear hfz22_1; try clear hfz22_2; try clear hfz22_3; try clear hfz22_4; try clear hfz22_5; try clear hfz22_6; try clear hfz22_7; try clear hfz22_8; try clear hfz23_0; try clear hfz23_1; try clear hfz23_2; try clear hfz23_3; try clear hfz23_4; try clear hfz23_5; try clear hfz23_6; try clear hfz23_7; try clear hfz23_8; try clear hfz25_0; try clear hfz25_1; try clear hfz25_2; try clear hfz25_3; try clear hfz25_4; try clear hfz25_5; try clear hfz25_6; try clear hfz25_7; try clear hfz25_8; try clear hfz26_0; try clear hfz26_1; try clear hfz26_2; try clear hfz26_3; try clear hfz26_4; try clear hfz26_5; try clear hfz26_6; try clear hfz26_7; try clear hfz26_8; try clear hfz28_0; try clear hfz28_1; try clear hfz28_2; try clear hfz28_3; try clear hfz28_4; try clear hfz28_5; try clear hfz28_6; try clear hfz28_7; try clear hfz28_8; try clear hfz29_0; try clear hfz29_1; try clear hfz29_2; try clear hfz29_3; try clear hfz29_4; try clear hfz29_5; try clear hfz29_6; try clear hfz29_7; try clear hfz29_8; try clear hfz31_0; try clear hfz31_1; try clear hfz31_2; try clear hfz31_3; try clear hfz31_4; try clear hfz31_5; try clear hfz31_6; try clear hfz31_7; try clear hfz31_8; try clear hfz32_0; try clear hfz32_1; try clear hfz32_2; try clear hfz32_3; try clear hfz32_4; try clear hfz32_5; try clear hfz32_6; try clear hfz32_7; try clear hfz32_8
  obtain ⟨kq, x57_2, rfl, HA, HJ2, BK311, BK312, HB⟩ := hcut
  cases kq with
  | zero => exact absurd HA.out (by simp [spec_SameType.j0])
  | succ kj2 =>
   have H := HA.out; clear HA
   simp only [spec_SameType.j0] at H
   by_cases c33 : x57_2 = true
   · subst c33
     replace H : (some false) = some r := (by rw [if_pos rfl] at H; exact H); obtain rfl := Option.some.inj H
     go_wp2
     go_ret
     exact ⟨by first | rfl | (simp <;> rfl) | (simp [*] <;> rfl), kR0 HB⟩
   ·
    replace c33 := Bool.eq_false_iff.mpr c33
    subst c33
    replace H : (spec_SameType.l0 kj2 0 a0_0 a0_1 a0_2 a0_3 l0_4 l0_5 l0_6 l0_7 a0_8 a1_0 a1_1 a1_2 a1_3 l1_4 l1_5 l1_6 l1_7 a1_8) = some r := (by rw [if_neg (show ¬ (false = true) by decide)] at H; exact H)
    have H' := yD H
    clear H
    go_wp2
    go_loopg [5] kj2 (fun kq v5 w' => ∃ (x5_2 : Int), v5 = .int .i64 x5_2 ∧ Aside0 (spec_SameType.l0 kq x5_2 a0_0 a0_1 a0_2 a0_3 l0_4 l0_5 l0_6 l0_7 a0_8 a1_0 a1_1 a1_2 a1_3 l1_4 l1_5 l1_6 l1_7 a1_8 = some r) ∧ Aside0 (kq ≤ kj2) ∧ Aside0 (w'.heap[gb311]? = some (.cells #[.int .i64 a0_0, .int .i64 a0_1, .bool a0_2, .bool a0_3, (.slice A0_4 l0_4.length c0_4), (.slice A0_5 l0_5.length c0_5), (.slice A0_6 l0_6.length c0_6), (.slice A0_7 l0_7.length c0_7), .int .i64 a0_8] 33 (0, 0))) ∧ Aside0 (w'.heap[gb312]? = some (.cells #[.int .i64 a1_0, .int .i64 a1_1, .bool a1_2, .bool a1_3, (.slice A1_4 l1_4.length c1_4), (.slice A1_5 l1_5.length c1_5), (.slice A1_6 l1_6.length c1_6), (.slice A1_7 l1_7.length c1_7), .int .i64 a1_8] 33 (0, 0))) ∧ Aside0 (Below w.heap.size w w'))
    case atStart => exact ⟨(0), (by first | rfl | (simp; done) | (simp [*]; done)), H', ⟨Nat.le_refl _⟩, ⟨kM BK311⟩, ⟨kM BK312⟩, ⟨kR0 HB⟩⟩
    case round =>
     clear H'
     try clear c1; try clear c6; try clear c6b0; try clear c6b1; try clear c7; try clear c7b0; try clear c7b1; try clear c8; try clear c8b0; try clear c8b1; try clear c8b2; try clear c12; try clear c12b0; try clear c12b1; try clear c12b2; try clear c16; try clear c16b0; try clear c16b1; try clear c17; try clear c17b0; try clear c17b1; try clear c17b2; try clear c33; try clear hcz10_0; try clear hcz10_1; try clear hcz10_2; try clear hcz10_3; try clear hcz10_4; try clear hcz10_5; try clear hcz10_6; try clear hcz10_7; try clear hcz10_8; try clear hcz11_0; try clear hcz11_1; try clear hcz11_2; try clear hcz11_3; try clear hcz11_4; try clear hcz11_5; try clear hcz11_6; try clear hcz11_7; try clear hcz11_8; try clear hcz14_0; try clear hcz14_1; try clear hcz14_2; try clear hcz14_3; try clear hcz14_4; try clear hcz14_5; try clear hcz14_6; try clear hcz14_7; try clear hcz14_8; try clear hcz15_0; try clear hcz15_1; try clear hcz15_2; try clear hcz15_3; try clear hcz15_4; try clear hcz15_5; try clear hcz15_6; try clear hcz15_7; try clear hcz15_8; try clear hcz19_0; try clear hcz19_1; try clear hcz19_2; try clear hcz19_3; try clear hcz19_4; try clear hcz19_5; try clear hcz19_6; try clear hcz19_7; try clear hcz19_8; try clear hcz20_0; try clear hcz20_1; try clear hcz20_2; try clear hcz20_3; try clear hcz20_4; try clear hcz20_5; try clear hcz20_6; try clear hcz20_7; try clear hcz20_8; try clear hcz22_0; try clear hcz22_1; try clear hcz22_2; try clear hcz22_3; try clear hcz22_4; try clear hcz22_5; try clear hcz22_6; try clear hcz22_7; try clear hcz22_8; try clear hcz23_0; try clear hcz23_1; try clear hcz23_2; try clear hcz23_3; try clear hcz23_4; try clear hcz23_5; try clear hcz23_6; try clear hcz23_7; try clear hcz23_8; try clear hcz25_0; try clear hcz25_1; try clear hcz25_2; try clear hcz25_3; try clear hcz25_4; try clear hcz25_5; try clear hcz25_6; try clear hcz25_7; try clear hcz25_8; try clear hcz26_0; try clear hcz26_1; try clear hcz26_2; try clear hcz26_3; try clear hcz26_4; try clear hcz26_5; try clear hcz26_6; try clear hcz26_7; try clear hcz26_8; try clear hcz28_0; try clear hcz28_1; try clear hcz28_2; try clear hcz28_3; try clear hcz28_4; try clear hcz28_5; try clear hcz28_6; try clear hcz28_7; try clear hcz28_8; try clear hcz29_0; try clear hcz29_1; try clear hcz29_2; try clear hcz29_3; try clear hcz29_4; try clear hcz29_5; try clear hcz29_6; try clear hcz29_7; try clear hcz29_8; try clear hcz31_0; try clear hcz31_1; try clear hcz31_2; try clear hcz31_3; try clear hcz31_4; try clear hcz31_5; try clear hcz31_6; try clear hcz31_7; try clear hcz31_8; try clear hcz32_0; try clear hcz32_1; try clear hcz32_2; try clear hcz32_3; try clear hcz32_4; try clear hcz32_5; try clear hcz32_6; try clear hcz32_7; try clear hcz32_8; try clear hfz10_0; try clear hfz10_1; try clear hfz10_2; try clear hfz10_3; try clear hfz10_4; try clear hfz10_5; try clear hfz10_6; try clear hfz10_7; try clear hfz10_8; try clear hfz11_0; try clear hfz11_1; try clear hfz11_2; try clear hfz11_3; try clear hfz11_4; try clear hfz11_5; try clear hfz11_6; try clear hfz11_7; try clear hfz11_8; try clear hfz14_0; try clear hfz14_1; try clear hfz14_2; try clear hfz14_3; try clear hfz14_4; try clear hfz14_5; try clear hfz14_6; try clear hfz14_7; try clear hfz14_8; try clear hfz15_0; try clear hfz15_1; try clear hfz15_2; try clear hfz15_3; try clear hfz15_4; try clear hfz15_5; try clear hfz15_6; try clear hfz15_7; try clear hfz15_8; try clear hfz19_0; try clear hfz19_1; try clear hfz19_2; try clear hfz19_3; try clear hfz19_4; try clear hfz19_5; try clear hfz19_6; try clear hfz19_7; try clear hfz19_8; try clear hfz20_0; try clear hfz20_1; try clear hfz20_2; try clear hfz20_3; try clear hfz20_4; try clear hfz20_5; try clear hfz20_6; try clear hfz20_7; try clear hfz20_8; try clear hfz22_0; try clear hfz22_1; try clear hfz22_2; try clear hfz22_3; try clear hfz22_4; try clear hfz22_5; try clear hfz22_6; try clear hfz22_7; try clear hfz22_8; try clear hfz23_0; try clear hfz23_1; try clear hfz23_2; try clear hfz23_3; try clear hfz23_4; try clear hfz23_5; try clear hfz23_6; try clear hfz23_7; try clear hfz23_8; try clear hfz25_0; try clear hfz25_1; try clear hfz25_2; try clear hfz25_3; try clear hfz25_4; try clear hfz25_5; try clear hfz25_6; try clear hfz25_7; try clear hfz25_8; try clear hfz26_0; try clear hfz26_1; try clear hfz26_2; try clear hfz26_3; try clear hfz26_4; try clear hfz26_5; try clear hfz26_6; try clear hfz26_7; try clear hfz26_8; try clear hfz28_0; try clear hfz28_1; try clear hfz28_2; try clear hfz28_3; try clear hfz28_4; try clear hfz28_5; try clear hfz28_6; try clear hfz28_7; try clear hfz28_8; try clear hfz29_0; try clear hfz29_1; try clear hfz29_2; try clear hfz29_3; try clear hfz29_4; try clear hfz29_5; try clear hfz29_6; try clear hfz29_7; try clear hfz29_8; try clear hfz31_0; try clear hfz31_1; try clear hfz31_2; try clear hfz31_3; try clear hfz31_4; try clear hfz31_5; try clear hfz31_6; try clear hfz31_7; try clear hfz31_8; try clear hfz32_0; try clear hfz32_1; try clear hfz32_2; try clear hfz32_3; try clear hfz32_4; try clear hfz32_5; try clear hfz32_6; try clear hfz32_7; try clear hfz32_8
     obtain ⟨x5_2, rfl, HA, HK2, BK311, BK312, HB⟩ := hrel
     cases gk with
     | zero => exact absurd HA.out (by simp [spec_SameType.l0])
     | succ k2 =>
      have H := HA.out; clear HA
      simp only [spec_SameType.l0] at H
      by_cases c34 : x5_2 < (l0_6.length : Int)
      ·
       rw [if_pos c34] at H
       have c34b0 : decide (x5_2 < (l0_6.length : Int)) = true := zR c34; clear c34
       by_cases c35 : 0 ≤ x5_2
       ·
        rw [if_pos c35] at H
        have c35b0 : decide (0 ≤ x5_2) = true := zR c35; clear c35
        by_cases c36 : x5_2 < (l1_6.length : Int)
        ·
         rw [if_pos c36] at H
         have c36b0 : decide (x5_2 < (l1_6.length : Int)) = true := zR c36; clear c36
         by_cases c37 : ((rd_T64 l0_6 x5_2).f0).toList = ((rd_T64 l1_6 x5_2).f0).toList
         ·
          rw [if_pos c37] at H
          have c37b0 : (((rd_T64 l0_6 x5_2).f0).toList == ((rd_T64 l1_6 x5_2).f0).toList) = true := beq_iff_eq.mpr c37
          have c37b1 : (((rd_T64 l0_6 x5_2).f0).toList != ((rd_T64 l1_6 x5_2).f0).toList) = false := bne_eq_false_iff_eq.mpr c37
          clear c37
          by_cases c38 : ((rd_T64 l0_6 x5_2).f1) = ((rd_T64 l1_6 x5_2).f1)
          ·
           rw [if_pos c38] at H
           have c38b0 : (((rd_T64 l0_6 x5_2).f1) == ((rd_T64 l1_6 x5_2).f1)) = true := beq_iff_eq.mpr c38
           have c38b1 : (((rd_T64 l0_6 x5_2).f1) != ((rd_T64 l1_6 x5_2).f1)) = false := bne_eq_false_iff_eq.mpr c38
           clear c38
           obtain ⟨t319, A390, H⟩ := zW_ H
           replace H : (if t319 = true then (spec_SameType.l0 k2 (wrap64 (x5_2 + 1)) a0_0 a0_1 a0_2 a0_3 l0_4 l0_5 l0_6 l0_7 a0_8 a1_0 a1_1 a1_2 a1_3 l1_4 l1_5 l1_6 l1_7 a1_8) else (some false)) = some r := H
           have A39 := yD A390
           clear A390
           by_cases c40 : t319 = true
           ·
            subst c40
            replace H : (spec_SameType.l0 k2 (wrap64 (x5_2 + 1)) a0_0 a0_1 a0_2 a0_3 l0_4 l0_5 l0_6 l0_7 a0_8 a1_0 a1_1 a1_2 a1_3 l1_4 l1_5 l1_6 l1_7 a1_8) = some r := (by rw [if_pos rfl] at H; exact H)
            have H' := yD H
            clear H; have hnb41 := NB311_312.out; have hnc41 := NB312_311.out
            obtain ⟨hcz42_0, hcz42_1, hcz42_2, hcz42_3, hcz42_4, hcz42_5, hcz42_6, hcz42_7, hcz42_8⟩ := cz9 BK311.out
            obtain ⟨hfz42_0, hfz42_1, hfz42_2, hfz42_3, hfz42_4, hfz42_5, hfz42_6, hfz42_7, hfz42_8⟩ := fz9 BK311.out
            try go_wp2
            have n0_ := yD (yO BK311.out)
            have n1_ := yD (yO BK312.out)
            have n2_ := yD (yP HB.out)
            clear BK311 BK312 HB; have BK311 := n0_; have BK312 := n1_; have HB := n2_; clear n0_ n1_ n2_
            have p313 : 0 ≤ (x5_2 : Int) := zP (by assumption)
            have q313 : x5_2 < (l0_6.length : Int) := zP (by assumption)
            obtain ⟨ad313, A313_6, c313_6, A313_7, c313_7, A313_8, c313_8, A313_9, c313_9, e313, hx313_0, hx313_1, hx313_2, hx313_3, hx313_4, hx313_5, hx313_6, hx313_7, hx313_8, hx313_9, hx313_10, hl313_6, hi313_6, hl313_7, hi313_7, hl313_8, hi313_8, hl313_9, hi313_9⟩ := at_T64 HR0_6.out x5_2 p313 q313
            have hw313_10 := hx313_10; have hw313_9 := hx313_9; have hw313_8 := hx313_8; have hw313_7 := hx313_7; have hw313_6 := hx313_6; have hw313_5 := hx313_5; have hw313_4 := hx313_4; have hw313_3 := hx313_3; have hw313_2 := hx313_2; have hw313_1 := hx313_1; have hw313_0 := hx313_0; cases e313
            replace hx313_0 := (HB.out.cell (zQ w _ hx313_0)).trans hx313_0
            replace hx313_1 := (HB.out.cell (zQ w _ hx313_1)).trans hx313_1
            replace hx313_2 := (HB.out.cell (zQ w _ hx313_2)).trans hx313_2
            replace hx313_3 := (HB.out.cell (zQ w _ hx313_3)).trans hx313_3
            replace hx313_4 := (HB.out.cell (zQ w _ hx313_4)).trans hx313_4
            replace hx313_5 := (HB.out.cell (zQ w _ hx313_5)).trans hx313_5
            replace hx313_6 := (HB.out.cell (zQ w _ hx313_6)).trans hx313_6
            replace hx313_7 := (HB.out.cell (zQ w _ hx313_7)).trans hx313_7
            replace hx313_8 := (HB.out.cell (zQ w _ hx313_8)).trans hx313_8
            replace hx313_9 := (HB.out.cell (zQ w _ hx313_9)).trans hx313_9
            replace hx313_10 := (HB.out.cell (zQ w _ hx313_10)).trans hx313_10
            have HR313_6 := yD hi313_6
            have HC313_6 := yD hl313_6
            clear hi313_6 hl313_6
            have HR313_7 := yD hi313_7
            have HC313_7 := yD hl313_7
            clear hi313_7 hl313_7
            have HR313_8 := yD hi313_8
            have HC313_8 := yD hl313_8
            clear hi313_8 hl313_8
            have HR313_9 := yD hi313_9
            have HC313_9 := yD hl313_9
            clear hi313_9 hl313_9; replace p313 := eq_true p313; replace q313 := eq_true q313
            have p314 : 0 ≤ (x5_2 : Int) := zP (by assumption)
            have q314 : x5_2 < (l1_6.length : Int) := zP (by assumption)
            obtain ⟨ad314, A314_6, c314_6, A314_7, c314_7, A314_8, c314_8, A314_9, c314_9, e314, hx314_0, hx314_1, hx314_2, hx314_3, hx314_4, hx314_5, hx314_6, hx314_7, hx314_8, hx314_9, hx314_10, hl314_6, hi314_6, hl314_7, hi314_7, hl314_8, hi314_8, hl314_9, hi314_9⟩ := at_T64 HR1_6.out x5_2 p314 q314
            have hw314_10 := hx314_10; have hw314_9 := hx314_9; have hw314_8 := hx314_8; have hw314_7 := hx314_7; have hw314_6 := hx314_6; have hw314_5 := hx314_5; have hw314_4 := hx314_4; have hw314_3 := hx314_3; have hw314_2 := hx314_2; have hw314_1 := hx314_1; have hw314_0 := hx314_0; cases e314
            replace hx314_0 := (HB.out.cell (zQ w _ hx314_0)).trans hx314_0
            replace hx314_1 := (HB.out.cell (zQ w _ hx314_1)).trans hx314_1
            replace hx314_2 := (HB.out.cell (zQ w _ hx314_2)).trans hx314_2
            replace hx314_3 := (HB.out.cell (zQ w _ hx314_3)).trans hx314_3
            replace hx314_4 := (HB.out.cell (zQ w _ hx314_4)).trans hx314_4
            replace hx314_5 := (HB.out.cell (zQ w _ hx314_5)).trans hx314_5
            replace hx314_6 := (HB.out.cell (zQ w _ hx314_6)).trans hx314_6
            replace hx314_7 := (HB.out.cell (zQ w _ hx314_7)).trans hx314_7
            replace hx314_8 := (HB.out.cell (zQ w _ hx314_8)).trans hx314_8
            replace hx314_9 := (HB.out.cell (zQ w _ hx314_9)).trans hx314_9
            replace hx314_10 := (HB.out.cell (zQ w _ hx314_10)).trans hx314_10
            have HR314_6 := yD hi314_6
            have HC314_6 := yD hl314_6
            clear hi314_6 hl314_6
            have HR314_7 := yD hi314_7
            have HC314_7 := yD hl314_7
            clear hi314_7 hl314_7
            have HR314_8 := yD hi314_8
            have HC314_8 := yD hl314_8
            clear hi314_8 hl314_8
            have HR314_9 := yD hi314_9
            have HC314_9 := yD hl314_9
            clear hi314_9 hl314_9; replace p314 := eq_true p314; replace q314 := eq_true q314
            have p315 : 0 ≤ (x5_2 : Int) := zP (by assumption)
            have q315 : x5_2 < (l0_6.length : Int) := zP (by assumption)
            obtain ⟨ad315, A315_6, c315_6, A315_7, c315_7, A315_8, c315_8, A315_9, c315_9, e315, hx315_0, hx315_1, hx315_2, hx315_3, hx315_4, hx315_5, hx315_6, hx315_7, hx315_8, hx315_9, hx315_10, hl315_6, hi315_6, hl315_7, hi315_7, hl315_8, hi315_8, hl315_9, hi315_9⟩ := at_T64 HR0_6.out x5_2 p315 q315
            have hw315_10 := hx315_10; have hw315_9 := hx315_9; have hw315_8 := hx315_8; have hw315_7 := hx315_7; have hw315_6 := hx315_6; have hw315_5 := hx315_5; have hw315_4 := hx315_4; have hw315_3 := hx315_3; have hw315_2 := hx315_2; have hw315_1 := hx315_1; have hw315_0 := hx315_0
            obtain rfl : ad313 = ad315 := (by injection e315)
            replace hx315_0 := (HB.out.cell (zQ w _ hx315_0)).trans hx315_0
            replace hx315_1 := (HB.out.cell (zQ w _ hx315_1)).trans hx315_1
            replace hx315_2 := (HB.out.cell (zQ w _ hx315_2)).trans hx315_2
            replace hx315_3 := (HB.out.cell (zQ w _ hx315_3)).trans hx315_3
            replace hx315_4 := (HB.out.cell (zQ w _ hx315_4)).trans hx315_4
            replace hx315_5 := (HB.out.cell (zQ w _ hx315_5)).trans hx315_5
            replace hx315_6 := (HB.out.cell (zQ w _ hx315_6)).trans hx315_6
            replace hx315_7 := (HB.out.cell (zQ w _ hx315_7)).trans hx315_7
            replace hx315_8 := (HB.out.cell (zQ w _ hx315_8)).trans hx315_8
            replace hx315_9 := (HB.out.cell (zQ w _ hx315_9)).trans hx315_9
            replace hx315_10 := (HB.out.cell (zQ w _ hx315_10)).trans hx315_10
            have HR315_6 := yD hi315_6
            have HC315_6 := yD hl315_6
            clear hi315_6 hl315_6
            have HR315_7 := yD hi315_7
            have HC315_7 := yD hl315_7
            clear hi315_7 hl315_7
            have HR315_8 := yD hi315_8
            have HC315_8 := yD hl315_8
            clear hi315_8 hl315_8
            have HR315_9 := yD hi315_9
            have HC315_9 := yD hl315_9
            clear hi315_9 hl315_9; replace p315 := eq_true p315; replace q315 := eq_true q315
            have ea_ := Option.some.inj (hx313_6.symm.trans hx315_6)
            injection ea_ with ea_ en_ ec_
            subst ea_; subst ec_; clear en_
            have ea_ := Option.some.inj (hx313_7.symm.trans hx315_7)
            injection ea_ with ea_ en_ ec_
            subst ea_; subst ec_; clear en_
            have ea_ := Option.some.inj (hx313_8.symm.trans hx315_8)
            injection ea_ with ea_ en_ ec_
            subst ea_; subst ec_; clear en_
            have ea_ := Option.some.inj (hx313_9.symm.trans hx315_9)
            injection ea_ with ea_ en_ ec_
            subst ea_; subst ec_; clear en_
            have p316 : 0 ≤ (x5_2 : Int) := zP (by assumption)
            have q316 : x5_2 < (l1_6.length : Int) := zP (by assumption)
            obtain ⟨ad316, A316_6, c316_6, A316_7, c316_7, A316_8, c316_8, A316_9, c316_9, e316, hx316_0, hx316_1, hx316_2, hx316_3, hx316_4, hx316_5, hx316_6, hx316_7, hx316_8, hx316_9, hx316_10, hl316_6, hi316_6, hl316_7, hi316_7, hl316_8, hi316_8, hl316_9, hi316_9⟩ := at_T64 HR1_6.out x5_2 p316 q316
            have hw316_10 := hx316_10; have hw316_9 := hx316_9; have hw316_8 := hx316_8; have hw316_7 := hx316_7; have hw316_6 := hx316_6; have hw316_5 := hx316_5; have hw316_4 := hx316_4; have hw316_3 := hx316_3; have hw316_2 := hx316_2; have hw316_1 := hx316_1; have hw316_0 := hx316_0
            obtain rfl : ad314 = ad316 := (by injection e316)
            replace hx316_0 := (HB.out.cell (zQ w _ hx316_0)).trans hx316_0
            replace hx316_1 := (HB.out.cell (zQ w _ hx316_1)).trans hx316_1
            replace hx316_2 := (HB.out.cell (zQ w _ hx316_2)).trans hx316_2
            replace hx316_3 := (HB.out.cell (zQ w _ hx316_3)).trans hx316_3
            replace hx316_4 := (HB.out.cell (zQ w _ hx316_4)).trans hx316_4
            replace hx316_5 := (HB.out.cell (zQ w _ hx316_5)).trans hx316_5
            replace hx316_6 := (HB.out.cell (zQ w _ hx316_6)).trans hx316_6
            replace hx316_7 := (HB.out.cell (zQ w _ hx316_7)).trans hx316_7
            replace hx316_8 := (HB.out.cell (zQ w _ hx316_8)).trans hx316_8
            replace hx316_9 := (HB.out.cell (zQ w _ hx316_9)).trans hx316_9
            replace hx316_10 := (HB.out.cell (zQ w _ hx316_10)).trans hx316_10
            have HR316_6 := yD hi316_6
            have HC316_6 := yD hl316_6
            clear hi316_6 hl316_6
            have HR316_7 := yD hi316_7
            have HC316_7 := yD hl316_7
            clear hi316_7 hl316_7
            have HR316_8 := yD hi316_8
            have HC316_8 := yD hl316_8
            clear hi316_8 hl316_8
            have HR316_9 := yD hi316_9
            have HC316_9 := yD hl316_9
            clear hi316_9 hl316_9; replace p316 := eq_true p316; replace q316 := eq_true q316
            have ea_ := Option.some.inj (hx314_6.symm.trans hx316_6)
            injection ea_ with ea_ en_ ec_
            subst ea_; subst ec_; clear en_
            have ea_ := Option.some.inj (hx314_7.symm.trans hx316_7)
            injection ea_ with ea_ en_ ec_
            subst ea_; subst ec_; clear en_
            have ea_ := Option.some.inj (hx314_8.symm.trans hx316_8)
            injection ea_ with ea_ en_ ec_
            subst ea_; subst ec_; clear en_
            have ea_ := Option.some.inj (hx314_9.symm.trans hx316_9)
            injection ea_ with ea_ en_ ec_
            subst ea_; subst ec_; clear en_
            have p317 : 0 ≤ (x5_2 : Int) := zP (by assumption)
            have q317 : x5_2 < (l0_6.length : Int) := zP (by assumption)
            obtain ⟨ad317, A317_6, c317_6, A317_7, c317_7, A317_8, c317_8, A317_9, c317_9, e317, hx317_0, hx317_1, hx317_2, hx317_3, hx317_4, hx317_5, hx317_6, hx317_7, hx317_8, hx317_9, hx317_10, hl317_6, hi317_6, hl317_7, hi317_7, hl317_8, hi317_8, hl317_9, hi317_9⟩ := at_T64 HR0_6.out x5_2 p317 q317
            have hw317_10 := hx317_10; have hw317_9 := hx317_9; have hw317_8 := hx317_8; have hw317_7 := hx317_7; have hw317_6 := hx317_6; have hw317_5 := hx317_5; have hw317_4 := hx317_4; have hw317_3 := hx317_3; have hw317_2 := hx317_2; have hw317_1 := hx317_1; have hw317_0 := hx317_0
            obtain rfl : ad313 = ad317 := (by injection e317)
            replace hx317_0 := (HB.out.cell (zQ w _ hx317_0)).trans hx317_0
            replace hx317_1 := (HB.out.cell (zQ w _ hx317_1)).trans hx317_1
            replace hx317_2 := (HB.out.cell (zQ w _ hx317_2)).trans hx317_2
            replace hx317_3 := (HB.out.cell (zQ w _ hx317_3)).trans hx317_3
            replace hx317_4 := (HB.out.cell (zQ w _ hx317_4)).trans hx317_4
            replace hx317_5 := (HB.out.cell (zQ w _ hx317_5)).trans hx317_5
            replace hx317_6 := (HB.out.cell (zQ w _ hx317_6)).trans hx317_6
            replace hx317_7 := (HB.out.cell (zQ w _ hx317_7)).trans hx317_7
            replace hx317_8 := (HB.out.cell (zQ w _ hx317_8)).trans hx317_8
            replace hx317_9 := (HB.out.cell (zQ w _ hx317_9)).trans hx317_9
            replace hx317_10 := (HB.out.cell (zQ w _ hx317_10)).trans hx317_10
            have HR317_6 := yD hi317_6
            have HC317_6 := yD hl317_6
            clear hi317_6 hl317_6
            have HR317_7 := yD hi317_7
            have HC317_7 := yD hl317_7
            clear hi317_7 hl317_7
            have HR317_8 := yD hi317_8
            have HC317_8 := yD hl317_8
            clear hi317_8 hl317_8
            have HR317_9 := yD hi317_9
            have HC317_9 := yD hl317_9
            clear hi317_9 hl317_9; replace p317 := eq_true p317; replace q317 := eq_true q317
            have ea_ := Option.some.inj (hx313_6.symm.trans hx317_6)
            injection ea_ with ea_ en_ ec_
            subst ea_; subst ec_; clear en_
            have ea_ := Option.some.inj (hx313_7.symm.trans hx317_7)
            injection ea_ with ea_ en_ ec_
            subst ea_; subst ec_; clear en_
            have ea_ := Option.some.inj (hx313_8.symm.trans hx317_8)
            injection ea_ with ea_ en_ ec_
            subst ea_; subst ec_; clear en_
            have ea_ := Option.some.inj (hx313_9.symm.trans hx317_9)
            injection ea_ with ea_ en_ ec_
            subst ea_; subst ec_; clear en_
            have p318 : 0 ≤ (x5_2 : Int) := zP (by assumption)
            have q318 : x5_2 < (l1_6.length : Int) := zP (by assumption)
            obtain ⟨ad318, A318_6, c318_6, A318_7, c318_7, A318_8, c318_8, A318_9, c318_9, e318, hx318_0, hx318_1, hx318_2, hx318_3, hx318_4, hx318_5, hx318_6, hx318_7, hx318_8, hx318_9, hx318_10, hl318_6, hi318_6, hl318_7, hi318_7, hl318_8, hi318_8, hl318_9, hi318_9⟩ := at_T64 HR1_6.out x5_2 p318 q318
            have hw318_10 := hx318_10; have hw318_9 := hx318_9; have hw318_8 := hx318_8; have hw318_7 := hx318_7; have hw318_6 := hx318_6; have hw318_5 := hx318_5; have hw318_4 := hx318_4; have hw318_3 := hx318_3; have hw318_2 := hx318_2; have hw318_1 := hx318_1; have hw318_0 := hx318_0
            obtain rfl : ad314 = ad318 := (by injection e318)
            replace hx318_0 := (HB.out.cell (zQ w _ hx318_0)).trans hx318_0
            replace hx318_1 := (HB.out.cell (zQ w _ hx318_1)).trans hx318_1
            replace hx318_2 := (HB.out.cell (zQ w _ hx318_2)).trans hx318_2
            replace hx318_3 := (HB.out.cell (zQ w _ hx318_3)).trans hx318_3
            replace hx318_4 := (HB.out.cell (zQ w _ hx318_4)).trans hx318_4
            replace hx318_5 := (HB.out.cell (zQ w _ hx318_5)).trans hx318_5
            replace hx318_6 := (HB.out.cell (zQ w _ hx318_6)).trans hx318_6
            replace hx318_7 := (HB.out.cell (zQ w _ hx318_7)).trans hx318_7
            replace hx318_8 := (HB.out.cell (zQ w _ hx318_8)).trans hx318_8
            replace hx318_9 := (HB.out.cell (zQ w _ hx318_9)).trans hx318_9
            replace hx318_10 := (HB.out.cell (zQ w _ hx318_10)).trans hx318_10
            have HR318_6 := yD hi318_6
            have HC318_6 := yD hl318_6
            clear hi318_6 hl318_6
            have HR318_7 := yD hi318_7
            have HC318_7 := yD hl318_7
            clear hi318_7 hl318_7
            have HR318_8 := yD hi318_8
            have HC318_8 := yD hl318_8
            clear hi318_8 hl318_8
            have HR318_9 := yD hi318_9
            have HC318_9 := yD hl318_9
            clear hi318_9 hl318_9; replace p318 := eq_true p318; replace q318 := eq_true q318
            have ea_ := Option.some.inj (hx314_6.symm.trans hx318_6)
            injection ea_ with ea_ en_ ec_
            subst ea_; subst ec_; clear en_
            have ea_ := Option.some.inj (hx314_7.symm.trans hx318_7)
            injection ea_ with ea_ en_ ec_
            subst ea_; subst ec_; clear en_
            have ea_ := Option.some.inj (hx314_8.symm.trans hx318_8)
            injection ea_ with ea_ en_ ec_
            subst ea_; subst ec_; clear en_
            have ea_ := Option.some.inj (hx314_9.symm.trans hx318_9)
            injection ea_ with ea_ en_ ec_
            subst ea_; subst ec_; clear en_
            refine start_ (n := 44) (S := fun w' => w'.cell? ⟨gb311, 0, none⟩ = some (.int .i64 a0_0) ∧ w'.cell? ⟨gb311, 1, none⟩ = some (.int .i64 a0_1) ∧ w'.cell? ⟨gb311, 2, none⟩ = some (.bool a0_2) ∧ w'.cell? ⟨gb311, 3, none⟩ = some (.bool a0_3) ∧ w'.cell? ⟨gb311, 4, none⟩ = some (.slice A0_4 l0_4.length c0_4) ∧ w'.cell? ⟨gb311, 5, none⟩ = some (.slice A0_5 l0_5.length c0_5) ∧ w'.cell? ⟨gb311, 6, none⟩ = some (.slice (some ad313) l0_6.length c0_6) ∧ w'.cell? ⟨gb311, 7, none⟩ = some (.slice A0_7 l0_7.length c0_7) ∧ w'.cell? ⟨gb311, 8, none⟩ = some (.int .i64 a0_8) ∧ w'.cell? ⟨gb312, 0, none⟩ = some (.int .i64 a1_0) ∧ w'.cell? ⟨gb312, 1, none⟩ = some (.int .i64 a1_1) ∧ w'.cell? ⟨gb312, 2, none⟩ = some (.bool a1_2) ∧ w'.cell? ⟨gb312, 3, none⟩ = some (.bool a1_3) ∧ w'.cell? ⟨gb312, 4, none⟩ = some (.slice A1_4 l1_4.length c1_4) ∧ w'.cell? ⟨gb312, 5, none⟩ = some (.slice A1_5 l1_5.length c1_5) ∧ w'.cell? ⟨gb312, 6, none⟩ = some (.slice (some ad314) l1_6.length c1_6) ∧ w'.cell? ⟨gb312, 7, none⟩ = some (.slice A1_7 l1_7.length c1_7) ∧ w'.cell? ⟨gb312, 8, none⟩ = some (.int .i64 a1_8) ∧ w'.cell? (ad313.add ((x5_2).toNat * 11)) = some (.string ((rd_T64 l0_6 x5_2).f0)) ∧ w'.cell? ⟨(ad313.add ((x5_2).toNat * 11)).block, (ad313.add ((x5_2).toNat * 11)).off + 1, none⟩ = some (.int .i64 ((rd_T64 l0_6 x5_2).f1)) ∧ w'.cell? ⟨(ad313.add ((x5_2).toNat * 11)).block, (ad313.add ((x5_2).toNat * 11)).off + 2, none⟩ = some (.int .i64 ((rd_T64 l0_6 x5_2).f2.f0)) ∧ w'.cell? ⟨(ad313.add ((x5_2).toNat * 11)).block, (ad313.add ((x5_2).toNat * 11)).off + 3, none⟩ = some (.int .i64 ((rd_T64 l0_6 x5_2).f2.f1)) ∧ w'.cell? ⟨(ad313.add ((x5_2).toNat * 11)).block, (ad313.add ((x5_2).toNat * 11)).off + 4, none⟩ = some (.bool ((rd_T64 l0_6 x5_2).f2.f2)) ∧ w'.cell? ⟨(ad313.add ((x5_2).toNat * 11)).block, (ad313.add ((x5_2).toNat * 11)).off + 5, none⟩ = some (.bool ((rd_T64 l0_6 x5_2).f2.f3)) ∧ w'.cell? ⟨(ad313.add ((x5_2).toNat * 11)).block, (ad313.add ((x5_2).toNat * 11)).off + 6, none⟩ = some (.slice A313_6 ((rd_T64 l0_6 x5_2).f2.f4).length c313_6) ∧ w'.cell? ⟨(ad313.add ((x5_2).toNat * 11)).block, (ad313.add ((x5_2).toNat * 11)).off + 7, none⟩ = some (.slice A313_7 ((rd_T64 l0_6 x5_2).f2.f5).length c313_7) ∧ w'.cell? ⟨(ad313.add ((x5_2).toNat * 11)).block, (ad313.add ((x5_2).toNat * 11)).off + 8, none⟩ = some (.slice A313_8 ((rd_T64 l0_6 x5_2).f2.f6).length c313_8) ∧ w'.cell? ⟨(ad313.add ((x5_2).toNat * 11)).block, (ad313.add ((x5_2).toNat * 11)).off + 9, none⟩ = some (.slice A313_9 ((rd_T64 l0_6 x5_2).f2.f7).length c313_9) ∧ w'.cell? ⟨(ad313.add ((x5_2).toNat * 11)).block, (ad313.add ((x5_2).toNat * 11)).off + 10, none⟩ = some (.int .i64 ((rd_T64 l0_6 x5_2).f2.f8)) ∧ w'.cell? (ad314.add ((x5_2).toNat * 11)) = some (.string ((rd_T64 l1_6 x5_2).f0)) ∧ w'.cell? ⟨(ad314.add ((x5_2).toNat * 11)).block, (ad314.add ((x5_2).toNat * 11)).off + 1, none⟩ = some (.int .i64 ((rd_T64 l1_6 x5_2).f1)) ∧ w'.cell? ⟨(ad314.add ((x5_2).toNat * 11)).block, (ad314.add ((x5_2).toNat * 11)).off + 2, none⟩ = some (.int .i64 ((rd_T64 l1_6 x5_2).f2.f0)) ∧ w'.cell? ⟨(ad314.add ((x5_2).toNat * 11)).block, (ad314.add ((x5_2).toNat * 11)).off + 3, none⟩ = some (.int .i64 ((rd_T64 l1_6 x5_2).f2.f1)) ∧ w'.cell? ⟨(ad314.add ((x5_2).toNat * 11)).block, (ad314.add ((x5_2).toNat * 11)).off + 4, none⟩ = some (.bool ((rd_T64 l1_6 x5_2).f2.f2)) ∧ w'.cell? ⟨(ad314.add ((x5_2).toNat * 11)).block, (ad314.add ((x5_2).toNat * 11)).off + 5, none⟩ = some (.bool ((rd_T64 l1_6 x5_2).f2.f3)) ∧ w'.cell? ⟨(ad314.add ((x5_2).toNat * 11)).block, (ad314.add ((x5_2).toNat * 11)).off + 6, none⟩ = some (.slice A314_6 ((rd_T64 l1_6 x5_2).f2.f4).length c314_6) ∧ w'.cell? ⟨(ad314.add ((x5_2).toNat * 11)).block, (ad314.add ((x5_2).toNat * 11)).off + 7, none⟩ = some (.slice A314_7 ((rd_T64 l1_6 x5_2).f2.f5).length c314_7) ∧ w'.cell? ⟨(ad314.add ((x5_2).toNat * 11)).block, (ad314.add ((x5_2).toNat * 11)).off + 8, none⟩ = some (.slice A314_8 ((rd_T64 l1_6 x5_2).f2.f6).length c314_8) ∧ w'.cell? ⟨(ad314.add ((x5_2).toNat * 11)).block, (ad314.add ((x5_2).toNat * 11)).off + 9, none⟩ = some (.slice A314_9 ((rd_T64 l1_6 x5_2).f2.f7).length c314_9) ∧ w'.cell? ⟨(ad314.add ((x5_2).toNat * 11)).block, (ad314.add ((x5_2).toNat * 11)).off + 10, none⟩ = some (.int .i64 ((rd_T64 l1_6 x5_2).f2.f8)) ∧ w'.cell? (ad313.add ((x5_2).toNat * 11)) = some (.string ((rd_T64 l0_6 x5_2).f0)) ∧ w'.cell? ⟨(ad313.add ((x5_2).toNat * 11)).block, (ad313.add ((x5_2).toNat * 11)).off + 1, none⟩ = some (.int .i64 ((rd_T64 l0_6 x5_2).f1)) ∧ w'.cell? ⟨(ad313.add ((x5_2).toNat * 11)).block, (ad313.add ((x5_2).toNat * 11)).off + 2, none⟩ = some (.int .i64 ((rd_T64 l0_6 x5_2).f2.f0)) ∧ w'.cell? ⟨(ad313.add ((x5_2).toNat * 11)).block, (ad313.add ((x5_2).toNat * 11)).off + 3, none⟩ = some (.int .i64 ((rd_T64 l0_6 x5_2).f2.f1)) ∧ w'.cell? ⟨(ad313.add ((x5_2).toNat * 11)).block, (ad313.add ((x5_2).toNat * 11)).off + 4, none⟩ = some (.bool ((rd_T64 l0_6 x5_2).f2.f2)) ∧ w'.cell? ⟨(ad313.add ((x5_2).toNat * 11)).block, (ad313.add ((x5_2).toNat * 11)).off + 5, none⟩ = some (.bool ((rd_T64 l0_6 x5_2).f2.f3)) ∧ w'.cell? ⟨(ad313.add ((x5_2).toNat * 11)).block, (ad313.add ((x5_2).toNat * 11)).off + 6, none⟩ = some (.slice A313_6 ((rd_T64 l0_6 x5_2).f2.f4).length c313_6) ∧ w'.cell? ⟨(ad313.add ((x5_2).toNat * 11)).block, (ad313.add ((x5_2).toNat * 11)).off + 7, none⟩ = some (.slice A313_7 ((rd_T64 l0_6 x5_2).f2.f5).length c313_7) ∧ w'.cell? ⟨(ad313.add ((x5_2).toNat * 11)).block, (ad313.add ((x5_2).toNat * 11)).off + 8, none⟩ = some (.slice A313_8 ((rd_T64 l0_6 x5_2).f2.f6).length c313_8) ∧ w'.cell? ⟨(ad313.add ((x5_2).toNat * 11)).block, (ad313.add ((x5_2).toNat * 11)).off + 9, none⟩ = some (.slice A313_9 ((rd_T64 l0_6 x5_2).f2.f7).length c313_9) ∧ w'.cell? ⟨(ad313.add ((x5_2).toNat * 11)).block, (ad313.add ((x5_2).toNat * 11)).off + 10, none⟩ = some (.int .i64 ((rd_T64 l0_6 x5_2).f2.f8)) ∧ w'.cell? (ad314.add ((x5_2).toNat * 11)) = some (.string ((rd_T64 l1_6 x5_2).f0)) ∧ w'.cell? ⟨(ad314.add ((x5_2).toNat * 11)).block, (ad314.add ((x5_2).toNat * 11)).off + 1, none⟩ = some (.int .i64 ((rd_T64 l1_6 x5_2).f1)) ∧ w'.cell? ⟨(ad314.add ((x5_2).toNat * 11)).block, (ad314.add ((x5_2).toNat * 11)).off + 2, none⟩ = some (.int .i64 ((rd_T64 l1_6 x5_2).f2.f0)) ∧ w'.cell? ⟨(ad314.add ((x5_2).toNat * 11)).block, (ad314.add ((x5_2).toNat * 11)).off + 3, none⟩ = some (.int .i64 ((rd_T64 l1_6 x5_2).f2.f1)) ∧ w'.cell? ⟨(ad314.add ((x5_2).toNat * 11)).block, (ad314.add ((x5_2).toNat * 11)).off + 4, none⟩ = some (.bool ((rd_T64 l1_6 x5_2).f2.f2)) ∧ w'.cell? ⟨(ad314.add ((x5_2).toNat * 11)).block, (ad314.add ((x5_2).toNat * 11)).off + 5, none⟩ = some (.bool ((rd_T64 l1_6 x5_2).f2.f3)) ∧ w'.cell? ⟨(ad314.add ((x5_2).toNat * 11)).block, (ad314.add ((x5_2).toNat * 11)).off + 6, none⟩ = some (.slice A314_6 ((rd_T64 l1_6 x5_2).f2.f4).length c314_6) ∧ w'.cell? ⟨(ad314.add ((x5_2).toNat * 11)).block, (ad314.add ((x5_2).toNat * 11)).off + 7, none⟩ = some (.slice A314_7 ((rd_T64 l1_6 x5_2).f2.f5).length c314_7) ∧ w'.cell? ⟨(ad314.add ((x5_2).toNat * 11)).block, (ad314.add ((x5_2).toNat * 11)).off + 8, none⟩ = some (.slice A314_8 ((rd_T64 l1_6 x5_2).f2.f6).length c314_8) ∧ w'.cell? ⟨(ad314.add ((x5_2).toNat * 11)).block, (ad314.add ((x5_2).toNat * 11)).off + 9, none⟩ = some (.slice A314_9 ((rd_T64 l1_6 x5_2).f2.f7).length c314_9) ∧ w'.cell? ⟨(ad314.add ((x5_2).toNat * 11)).block, (ad314.add ((x5_2).toNat * 11)).off + 10, none⟩ = some (.int .i64 ((rd_T64 l1_6 x5_2).f2.f8)) ∧ w'.cell? (ad313.add ((x5_2).toNat * 11)) = some (.string ((rd_T64 l0_6 x5_2).f0)) ∧ w'.cell? ⟨(ad313.add ((x5_2).toNat * 11)).block, (ad313.add ((x5_2).toNat * 11)).off + 1, none⟩ = some (.int .i64 ((rd_T64 l0_6 x5_2).f1)) ∧ w'.cell? ⟨(ad313.add ((x5_2).toNat * 11)).block, (ad313.add ((x5_2).toNat * 11)).off + 2, none⟩ = some (.int .i64 ((rd_T64 l0_6 x5_2).f2.f0)) ∧ w'.cell? ⟨(ad313.add ((x5_2).toNat * 11)).block, (ad313.add ((x5_2).toNat * 11)).off + 3, none⟩ = some (.int .i64 ((rd_T64 l0_6 x5_2).f2.f1)) ∧ w'.cell? ⟨(ad313.add ((x5_2).toNat * 11)).block, (ad313.add ((x5_2).toNat * 11)).off + 4, none⟩ = some (.bool ((rd_T64 l0_6 x5_2).f2.f2)) ∧ w'.cell? ⟨(ad313.add ((x5_2).toNat * 11)).block, (ad313.add ((x5_2).toNat * 11)).off + 5, none⟩ = some (.bool ((rd_T64 l0_6 x5_2).f2.f3)) ∧ w'.cell? ⟨(ad313.add ((x5_2).toNat * 11)).block, (ad313.add ((x5_2).toNat * 11)).off + 6, none⟩ = some (.slice A313_6 ((rd_T64 l0_6 x5_2).f2.f4).length c313_6) ∧ w'.cell? ⟨(ad313.add ((x5_2).toNat * 11)).block, (ad313.add ((x5_2).toNat * 11)).off + 7, none⟩ = some (.slice A313_7 ((rd_T64 l0_6 x5_2).f2.f5).length c313_7) ∧ w'.cell? ⟨(ad313.add ((x5_2).toNat * 11)).block, (ad313.add ((x5_2).toNat * 11)).off + 8, none⟩ = some (.slice A313_8 ((rd_T64 l0_6 x5_2).f2.f6).length c313_8) ∧ w'.cell? ⟨(ad313.add ((x5_2).toNat * 11)).block, (ad313.add ((x5_2).toNat * 11)).off + 9, none⟩ = some (.slice A313_9 ((rd_T64 l0_6 x5_2).f2.f7).length c313_9) ∧ w'.cell? ⟨(ad313.add ((x5_2).toNat * 11)).block, (ad313.add ((x5_2).toNat * 11)).off + 10, none⟩ = some (.int .i64 ((rd_T64 l0_6 x5_2).f2.f8)) ∧ w'.cell? (ad314.add ((x5_2).toNat * 11)) = some (.string ((rd_T64 l1_6 x5_2).f0)) ∧ w'.cell? ⟨(ad314.add ((x5_2).toNat * 11)).block, (ad314.add ((x5_2).toNat * 11)).off + 1, none⟩ = some (.int .i64 ((rd_T64 l1_6 x5_2).f1)) ∧ w'.cell? ⟨(ad314.add ((x5_2).toNat * 11)).block, (ad314.add ((x5_2).toNat * 11)).off + 2, none⟩ = some (.int .i64 ((rd_T64 l1_6 x5_2).f2.f0)) ∧ w'.cell? ⟨(ad314.add ((x5_2).toNat * 11)).block, (ad314.add ((x5_2).toNat * 11)).off + 3, none⟩ = some (.int .i64 ((rd_T64 l1_6 x5_2).f2.f1)) ∧ w'.cell? ⟨(ad314.add ((x5_2).toNat * 11)).block, (ad314.add ((x5_2).toNat * 11)).off + 4, none⟩ = some (.bool ((rd_T64 l1_6 x5_2).f2.f2)) ∧ w'.cell? ⟨(ad314.add ((x5_2).toNat * 11)).block, (ad314.add ((x5_2).toNat * 11)).off + 5, none⟩ = some (.bool ((rd_T64 l1_6 x5_2).f2.f3)) ∧ w'.cell? ⟨(ad314.add ((x5_2).toNat * 11)).block, (ad314.add ((x5_2).toNat * 11)).off + 6, none⟩ = some (.slice A314_6 ((rd_T64 l1_6 x5_2).f2.f4).length c314_6) ∧ w'.cell? ⟨(ad314.add ((x5_2).toNat * 11)).block, (ad314.add ((x5_2).toNat * 11)).off + 7, none⟩ = some (.slice A314_7 ((rd_T64 l1_6 x5_2).f2.f5).length c314_7) ∧ w'.cell? ⟨(ad314.add ((x5_2).toNat * 11)).block, (ad314.add ((x5_2).toNat * 11)).off + 8, none⟩ = some (.slice A314_8 ((rd_T64 l1_6 x5_2).f2.f6).length c314_8) ∧ w'.cell? ⟨(ad314.add ((x5_2).toNat * 11)).block, (ad314.add ((x5_2).toNat * 11)).off + 9, none⟩ = some (.slice A314_9 ((rd_T64 l1_6 x5_2).f2.f7).length c314_9) ∧ w'.cell? ⟨(ad314.add ((x5_2).toNat * 11)).block, (ad314.add ((x5_2).toNat * 11)).off + 10, none⟩ = some (.int .i64 ((rd_T64 l1_6 x5_2).f2.f8))) (ds := []) (bz 44 0) (by kernel_rfl) rfl rfl ⟨(yG BK311.out 0).trans rfl, (yG BK311.out 1).trans rfl, (yG BK311.out 2).trans rfl, (yG BK311.out 3).trans rfl, (yG BK311.out 4).trans rfl, (yG BK311.out 5).trans rfl, (yG BK311.out 6).trans rfl, (yG BK311.out 7).trans rfl, (yG BK311.out 8).trans rfl, (yG BK312.out 0).trans rfl, (yG BK312.out 1).trans rfl, (yG BK312.out 2).trans rfl, (yG BK312.out 3).trans rfl, (yG BK312.out 4).trans rfl, (yG BK312.out 5).trans rfl, (yG BK312.out 6).trans rfl, (yG BK312.out 7).trans rfl, (yG BK312.out 8).trans rfl, ((HB.out.cell (zQ w _ hw313_0)).trans hw313_0), ((HB.out.cell (zQ w _ hw313_1)).trans hw313_1), ((HB.out.cell (zQ w _ hw313_2)).trans hw313_2), ((HB.out.cell (zQ w _ hw313_3)).trans hw313_3), ((HB.out.cell (zQ w _ hw313_4)).trans hw313_4), ((HB.out.cell (zQ w _ hw313_5)).trans hw313_5), ((HB.out.cell (zQ w _ hw313_6)).trans hw313_6), ((HB.out.cell (zQ w _ hw313_7)).trans hw313_7), ((HB.out.cell (zQ w _ hw313_8)).trans hw313_8), ((HB.out.cell (zQ w _ hw313_9)).trans hw313_9), ((HB.out.cell (zQ w _ hw313_10)).trans hw313_10), ((HB.out.cell (zQ w _ hw314_0)).trans hw314_0), ((HB.out.cell (zQ w _ hw314_1)).trans hw314_1), ((HB.out.cell (zQ w _ hw314_2)).trans hw314_2), ((HB.out.cell (zQ w _ hw314_3)).trans hw314_3), ((HB.out.cell (zQ w _ hw314_4)).trans hw314_4), ((HB.out.cell (zQ w _ hw314_5)).trans hw314_5), ((HB.out.cell (zQ w _ hw314_6)).trans hw314_6), ((HB.out.cell (zQ w _ hw314_7)).trans hw314_7), ((HB.out.cell (zQ w _ hw314_8)).trans hw314_8), ((HB.out.cell (zQ w _ hw314_9)).trans hw314_9), ((HB.out.cell (zQ w _ hw314_10)).trans hw314_10), ((HB.out.cell (zQ w _ hw315_0)).trans hw315_0), ((HB.out.cell (zQ w _ hw315_1)).trans hw315_1), ((HB.out.cell (zQ w _ hw315_2)).trans hw315_2), ((HB.out.cell (zQ w _ hw315_3)).trans hw315_3), ((HB.out.cell (zQ w _ hw315_4)).trans hw315_4), ((HB.out.cell (zQ w _ hw315_5)).trans hw315_5), ((HB.out.cell (zQ w _ hw315_6)).trans hw315_6), ((HB.out.cell (zQ w _ hw315_7)).trans hw315_7), ((HB.out.cell (zQ w _ hw315_8)).trans hw315_8), ((HB.out.cell (zQ w _ hw315_9)).trans hw315_9), ((HB.out.cell (zQ w _ hw315_10)).trans hw315_10), ((HB.out.cell (zQ w _ hw316_0)).trans hw316_0), ((HB.out.cell (zQ w _ hw316_1)).trans hw316_1), ((HB.out.cell (zQ w _ hw316_2)).trans hw316_2), ((HB.out.cell (zQ w _ hw316_3)).trans hw316_3), ((HB.out.cell (zQ w _ hw316_4)).trans hw316_4), ((HB.out.cell (zQ w _ hw316_5)).trans hw316_5), ((HB.out.cell (zQ w _ hw316_6)).trans hw316_6), ((HB.out.cell (zQ w _ hw316_7)).trans hw316_7), ((HB.out.cell (zQ w _ hw316_8)).trans hw316_8), ((HB.out.cell (zQ w _ hw316_9)).trans hw316_9), ((HB.out.cell (zQ w _ hw316_10)).trans hw316_10), ((HB.out.cell (zQ w _ hw317_0)).trans hw317_0), ((HB.out.cell (zQ w _ hw317_1)).trans hw317_1), ((HB.out.cell (zQ w _ hw317_2)).trans hw317_2), ((HB.out.cell (zQ w _ hw317_3)).trans hw317_3), ((HB.out.cell (zQ w _ hw317_4)).trans hw317_4), ((HB.out.cell (zQ w _ hw317_5)).trans hw317_5), ((HB.out.cell (zQ w _ hw317_6)).trans hw317_6), ((HB.out.cell (zQ w _ hw317_7)).trans hw317_7), ((HB.out.cell (zQ w _ hw317_8)).trans hw317_8), ((HB.out.cell (zQ w _ hw317_9)).trans hw317_9), ((HB.out.cell (zQ w _ hw317_10)).trans hw317_10), ((HB.out.cell (zQ w _ hw318_0)).trans hw318_0), ((HB.out.cell (zQ w _ hw318_1)).trans hw318_1), ((HB.out.cell (zQ w _ hw318_2)).trans hw318_2), ((HB.out.cell (zQ w _ hw318_3)).trans hw318_3), ((HB.out.cell (zQ w _ hw318_4)).trans hw318_4), ((HB.out.cell (zQ w _ hw318_5)).trans hw318_5), ((HB.out.cell (zQ w _ hw318_6)).trans hw318_6), ((HB.out.cell (zQ w _ hw318_7)).trans hw318_7), ((HB.out.cell (zQ w _ hw318_8)).trans hw318_8), ((HB.out.cell (zQ w _ hw318_9)).trans hw318_9), ((HB.out.cell (zQ w _ hw318_10)).trans hw318_10)⟩ (fun hHeld => ?_); refine with_tabW spec_SameType.tab6 spec_SameType.bits6 (fun HT_ HW_ => ?_)
            generalize wr.drew = w43 at BK311 BK312 HB HR313_6 HR313_7 HR313_8 HR313_9 HR314_6 HR314_7 HR314_8 HR314_9 HR315_6 HR315_7 HR315_8 HR315_9 HR316_6 HR316_7 HR316_8 HR316_9 HR317_6 HR317_7 HR317_8 HR317_9 HR318_6 HR318_7 HR318_8 HR318_9 hx313_0 hx313_1 hx313_10 hx313_2 hx313_3 hx313_4 hx313_5 hx313_6 hx313_7 hx313_8 hx313_9 hx314_0 hx314_1 hx314_10 hx314_2 hx314_3 hx314_4 hx314_5 hx314_6 hx314_7 hx314_8 hx314_9 hx315_0 hx315_1 hx315_10 hx315_2 hx315_3 hx315_4 hx315_5 hx315_6 hx315_7 hx315_8 hx315_9 hx316_0 hx316_1 hx316_10 hx316_2 hx316_3 hx316_4 hx316_5 hx316_6 hx316_7 hx316_8 hx316_9 hx317_0 hx317_1 hx317_10 hx317_2 hx317_3 hx317_4 hx317_5 hx317_6 hx317_7 hx317_8 hx317_9 hx318_0 hx318_1 hx318_10 hx318_2 hx318_3 hx318_4 hx318_5 hx318_6 hx318_7 hx318_8 hx318_9 hHeld ⊢
            refine qA 0 65 (bz 44 1) HT_ ?_
            refine qA 2 67 (bz 44 5) HT_ ?_
            refine qA 6 71 (bz 44 69) HT_ ?_
            refine qA 8 73 (bz 44 325) HT_ ?_
            refine qC 1 66 (bz 44 327) HT_ HW_ hHeld ?_ (hy := by rintro w' ⟨s0, s1, s2, s3, s4, s5, s6, s7, s8, s9, s10, s11, s12, s13, s14, s15, s16, s17, s18, s19, s20, s21, s22, s23, s24, s25, s26, s27, s28, s29, s30, s31, s32, s33, s34, s35, s36, s37, s38, s39, s40, s41, s42, s43, s44, s45, s46, s47, s48, s49, s50, s51, s52, s53, s54, s55, s56, s57, s58, s59, s60, s61, s62, s63, s64, s65, s66, s67, s68, s69, s70, s71, s72, s73, s74, s75, s76, s77, s78, s79, s80, s81, s82, s83⟩; go_simp; with_reducible rfl)
            refine qA 3 68 (bz 44 335) HT_ ?_
            refine qA 4 69 (bz 44 351) HT_ ?_
            refine qC 5 70 (bz 44 383) HT_ HW_ hHeld ?_ (hy := by rintro w' ⟨s0, s1, s2, s3, s4, s5, s6, s7, s8, s9, s10, s11, s12, s13, s14, s15, s16, s17, s18, s19, s20, s21, s22, s23, s24, s25, s26, s27, s28, s29, s30, s31, s32, s33, s34, s35, s36, s37, s38, s39, s40, s41, s42, s43, s44, s45, s46, s47, s48, s49, s50, s51, s52, s53, s54, s55, s56, s57, s58, s59, s60, s61, s62, s63, s64, s65, s66, s67, s68, s69, s70, s71, s72, s73, s74, s75, s76, s77, s78, s79, s80, s81, s82, s83⟩; go_simp; with_reducible rfl)
            refine qC 7 72 (bz 44 511) HT_ HW_ hHeld ?_ (hy := by rintro w' ⟨s0, s1, s2, s3, s4, s5, s6, s7, s8, s9, s10, s11, s12, s13, s14, s15, s16, s17, s18, s19, s20, s21, s22, s23, s24, s25, s26, s27, s28, s29, s30, s31, s32, s33, s34, s35, s36, s37, s38, s39, s40, s41, s42, s43, s44, s45, s46, s47, s48, s49, s50, s51, s52, s53, s54, s55, s56, s57, s58, s59, s60, s61, s62, s63, s64, s65, s66, s67, s68, s69, s70, s71, s72, s73, s74, s75, s76, s77, s78, s79, s80, s81, s82, s83⟩; go_simp; with_reducible rfl)
            refine qA 9 74 (bz 44 1023) HT_ ?_
            refine qA 10 75 (bz 44 2047) HT_ ?_
            refine qC 11 76 (bz 44 4095) HT_ HW_ hHeld ?_ (hy := by rintro w' ⟨s0, s1, s2, s3, s4, s5, s6, s7, s8, s9, s10, s11, s12, s13, s14, s15, s16, s17, s18, s19, s20, s21, s22, s23, s24, s25, s26, s27, s28, s29, s30, s31, s32, s33, s34, s35, s36, s37, s38, s39, s40, s41, s42, s43, s44, s45, s46, s47, s48, s49, s50, s51, s52, s53, s54, s55, s56, s57, s58, s59, s60, s61, s62, s63, s64, s65, s66, s67, s68, s69, s70, s71, s72, s73, s74, s75, s76, s77, s78, s79, s80, s81, s82, s83⟩; go_simp; with_reducible rfl)
            refine qA 12 77 (bz 44 8191) HT_ ?_
            refine qA 13 78 (bz 44 16383) HT_ ?_
            refine qA 14 79 (bz 44 32767) HT_ ?_
            refine qA 16 81 (bz 44 98303) HT_ ?_
            refine qA 20 85 (bz 44 1146879) HT_ ?_
            refine qA 22 87 (bz 44 5341183) HT_ ?_
            refine qC 15 80 (bz 44 5373951) HT_ HW_ hHeld ?_ (hy := by rintro w' ⟨s0, s1, s2, s3, s4, s5, s6, s7, s8, s9, s10, s11, s12, s13, s14, s15, s16, s17, s18, s19, s20, s21, s22, s23, s24, s25, s26, s27, s28, s29, s30, s31, s32, s33, s34, s35, s36, s37, s38, s39, s40, s41, s42, s43, s44, s45, s46, s47, s48, s49, s50, s51, s52, s53, s54, s55, s56, s57, s58, s59, s60, s61, s62, s63, s64, s65, s66, s67, s68, s69, s70, s71, s72, s73, s74, s75, s76, s77, s78, s79, s80, s81, s82, s83⟩; go_simp; with_reducible rfl)
            refine qA 17 82 (bz 44 5505023) HT_ ?_
            refine qA 18 83 (bz 44 5767167) HT_ ?_
            refine qC 19 84 (bz 44 6291455) HT_ HW_ hHeld ?_ (hy := by rintro w' ⟨s0, s1, s2, s3, s4, s5, s6, s7, s8, s9, s10, s11, s12, s13, s14, s15, s16, s17, s18, s19, s20, s21, s22, s23, s24, s25, s26, s27, s28, s29, s30, s31, s32, s33, s34, s35, s36, s37, s38, s39, s40, s41, s42, s43, s44, s45, s46, s47, s48, s49, s50, s51, s52, s53, s54, s55, s56, s57, s58, s59, s60, s61, s62, s63, s64, s65, s66, s67, s68, s69, s70, s71, s72, s73, s74, s75, s76, s77, s78, s79, s80, s81, s82, s83⟩; go_simp; with_reducible rfl)
            refine qC 21 86 (bz 44 8388607) HT_ HW_ hHeld ?_ (hy := by rintro w' ⟨s0, s1, s2, s3, s4, s5, s6, s7, s8, s9, s10, s11, s12, s13, s14, s15, s16, s17, s18, s19, s20, s21, s22, s23, s24, s25, s26, s27, s28, s29, s30, s31, s32, s33, s34, s35, s36, s37, s38, s39, s40, s41, s42, s43, s44, s45, s46, s47, s48, s49, s50, s51, s52, s53, s54, s55, s56, s57, s58, s59, s60, s61, s62, s63, s64, s65, s66, s67, s68, s69, s70, s71, s72, s73, s74, s75, s76, s77, s78, s79, s80, s81, s82, s83⟩; go_simp; with_reducible rfl)
            refine qA 23 88 (bz 44 16777215) HT_ ?_
            refine qA 24 89 (bz 44 33554431) HT_ ?_
            refine qC 25 90 (bz 44 67108863) HT_ HW_ hHeld ?_ (hy := by rintro w' ⟨s0, s1, s2, s3, s4, s5, s6, s7, s8, s9, s10, s11, s12, s13, s14, s15, s16, s17, s18, s19, s20, s21, s22, s23, s24, s25, s26, s27, s28, s29, s30, s31, s32, s33, s34, s35, s36, s37, s38, s39, s40, s41, s42, s43, s44, s45, s46, s47, s48, s49, s50, s51, s52, s53, s54, s55, s56, s57, s58, s59, s60, s61, s62, s63, s64, s65, s66, s67, s68, s69, s70, s71, s72, s73, s74, s75, s76, s77, s78, s79, s80, s81, s82, s83⟩; go_simp; with_reducible rfl)
            refine qA 26 91 (bz 44 134217727) HT_ ?_
            refine qA 27 92 (bz 44 268435455) HT_ ?_
            refine qA 28 93 (bz 44 536870911) HT_ ?_
            refine qA 29 94 (bz 44 1073741823) HT_ ?_
            refine qA 31 96 (bz 44 3221225471) HT_ ?_
            refine qA 35 100 (bz 44 37580963839) HT_ ?_
            refine qA 37 102 (bz 44 175019917311) HT_ ?_
            refine qC 30 95 (bz 44 176093659135) HT_ HW_ hHeld ?_ (hy := by rintro w' ⟨s0, s1, s2, s3, s4, s5, s6, s7, s8, s9, s10, s11, s12, s13, s14, s15, s16, s17, s18, s19, s20, s21, s22, s23, s24, s25, s26, s27, s28, s29, s30, s31, s32, s33, s34, s35, s36, s37, s38, s39, s40, s41, s42, s43, s44, s45, s46, s47, s48, s49, s50, s51, s52, s53, s54, s55, s56, s57, s58, s59, s60, s61, s62, s63, s64, s65, s66, s67, s68, s69, s70, s71, s72, s73, s74, s75, s76, s77, s78, s79, s80, s81, s82, s83⟩; go_simp; with_reducible rfl)
            refine qA 32 97 (bz 44 180388626431) HT_ ?_
            refine qA 33 98 (bz 44 188978561023) HT_ ?_
            refine qC 34 99 (bz 44 206158430207) HT_ HW_ hHeld ?_ (hy := by rintro w' ⟨s0, s1, s2, s3, s4, s5, s6, s7, s8, s9, s10, s11, s12, s13, s14, s15, s16, s17, s18, s19, s20, s21, s22, s23, s24, s25, s26, s27, s28, s29, s30, s31, s32, s33, s34, s35, s36, s37, s38, s39, s40, s41, s42, s43, s44, s45, s46, s47, s48, s49, s50, s51, s52, s53, s54, s55, s56, s57, s58, s59, s60, s61, s62, s63, s64, s65, s66, s67, s68, s69, s70, s71, s72, s73, s74, s75, s76, s77, s78, s79, s80, s81, s82, s83⟩; go_simp; with_reducible rfl)
            refine qC 36 101 (bz 44 274877906943) HT_ HW_ hHeld ?_ (hy := by rintro w' ⟨s0, s1, s2, s3, s4, s5, s6, s7, s8, s9, s10, s11, s12, s13, s14, s15, s16, s17, s18, s19, s20, s21, s22, s23, s24, s25, s26, s27, s28, s29, s30, s31, s32, s33, s34, s35, s36, s37, s38, s39, s40, s41, s42, s43, s44, s45, s46, s47, s48, s49, s50, s51, s52, s53, s54, s55, s56, s57, s58, s59, s60, s61, s62, s63, s64, s65, s66, s67, s68, s69, s70, s71, s72, s73, s74, s75, s76, s77, s78, s79, s80, s81, s82, s83⟩; go_simp; with_reducible rfl)
            refine qA 38 103 (bz 44 549755813887) HT_ ?_
            refine qA 39 104 (bz 44 1099511627775) HT_ ?_
            refine qC 40 105 (bz 44 2199023255551) HT_ HW_ hHeld ?_ (hy := by rintro w' ⟨s0, s1, s2, s3, s4, s5, s6, s7, s8, s9, s10, s11, s12, s13, s14, s15, s16, s17, s18, s19, s20, s21, s22, s23, s24, s25, s26, s27, s28, s29, s30, s31, s32, s33, s34, s35, s36, s37, s38, s39, s40, s41, s42, s43, s44, s45, s46, s47, s48, s49, s50, s51, s52, s53, s54, s55, s56, s57, s58, s59, s60, s61, s62, s63, s64, s65, s66, s67, s68, s69, s70, s71, s72, s73, s74, s75, s76, s77, s78, s79, s80, s81, s82, s83⟩; go_simp; with_reducible rfl)
            refine one_ (i := 41) (N := some 106) (bz 44 4398046511103) rfl rfl (one_of HT_.out (by kernel_rfl)) (by decide) (fun K hK => ?_)
            refine goes_ Try.func8 (by kernel_rfl) rfl #[.agg #[.int .i64 ((rd_T64 l0_6 x5_2).f2.f0), .int .i64 ((rd_T64 l0_6 x5_2).f2.f1), .bool ((rd_T64 l0_6 x5_2).f2.f2), .bool ((rd_T64 l0_6 x5_2).f2.f3), .slice A313_6 ((rd_T64 l0_6 x5_2).f2.f4).length c313_6, .slice A313_7 ((rd_T64 l0_6 x5_2).f2.f5).length c313_7, .slice A313_8 ((rd_T64 l0_6 x5_2).f2.f6).length c313_8, .slice A313_9 ((rd_T64 l0_6 x5_2).f2.f7).length c313_9, .int .i64 ((rd_T64 l0_6 x5_2).f2.f8)], .agg #[.int .i64 ((rd_T64 l1_6 x5_2).f2.f0), .int .i64 ((rd_T64 l1_6 x5_2).f2.f1), .bool ((rd_T64 l1_6 x5_2).f2.f2), .bool ((rd_T64 l1_6 x5_2).f2.f3), .slice A314_6 ((rd_T64 l1_6 x5_2).f2.f4).length c314_6, .slice A314_7 ((rd_T64 l1_6 x5_2).f2.f5).length c314_7, .slice A314_8 ((rd_T64 l1_6 x5_2).f2.f6).length c314_8, .slice A314_9 ((rd_T64 l1_6 x5_2).f2.f7).length c314_9, .int .i64 ((rd_T64 l1_6 x5_2).f2.f8)]] (by rfl) rfl rfl (by (try simp only [zK, zL, zM]); first | done | rfl | (simp only [zN, zO]; rfl)) ?_
            with_reducible refine (ih k2 (by have := HJ2.out; have := HK2.out; omega) ((rd_T64 l0_6 x5_2).f2.f0) ((rd_T64 l0_6 x5_2).f2.f1) ((rd_T64 l0_6 x5_2).f2.f2) ((rd_T64 l0_6 x5_2).f2.f3) _ _ ((rd_T64 l0_6 x5_2).f2.f4) _ _ ((rd_T64 l0_6 x5_2).f2.f5) _ _ ((rd_T64 l0_6 x5_2).f2.f6) _ _ ((rd_T64 l0_6 x5_2).f2.f7) ((rd_T64 l0_6 x5_2).f2.f8) ((rd_T64 l1_6 x5_2).f2.f0) ((rd_T64 l1_6 x5_2).f2.f1) ((rd_T64 l1_6 x5_2).f2.f2) ((rd_T64 l1_6 x5_2).f2.f3) _ _ ((rd_T64 l1_6 x5_2).f2.f4) _ _ ((rd_T64 l1_6 x5_2).f2.f5) _ _ ((rd_T64 l1_6 x5_2).f2.f6) _ _ ((rd_T64 l1_6 x5_2).f2.f7) ((rd_T64 l1_6 x5_2).f2.f8) true _ ?side1 ?side2 ?side3 ?side4 ?side5 ?side6 ?side7 ?side8 ?side9 ?side10 ?side11 ?side12 ?side13 ?side14 ?side15 ?side16 A39.out).mono ?_
            (case side1 => exact kV (yY HR317_6.out HB.out))
            (case side2 => exact HC317_6.out)
            (case side3 => exact kV (yY HR317_7.out HB.out))
            (case side4 => exact HC317_7.out)
            (case side5 => exact kV (yY HR317_8.out HB.out))
            (case side6 => exact HC317_8.out)
            (case side7 => exact kV (yY HR317_9.out HB.out))
            (case side8 => exact HC317_9.out)
            (case side9 => exact kV (yY HR318_6.out HB.out))
            (case side10 => exact HC318_6.out)
            (case side11 => exact kV (yY HR318_7.out HB.out))
            (case side12 => exact HC318_7.out)
            (case side13 => exact kV (yY HR318_8.out HB.out))
            (case side14 => exact HC318_8.out)
            (case side15 => exact kV (yY HR318_9.out HB.out))
            (case side16 => exact HC318_9.out)
            rintro e w44 ⟨rfl, hb⟩
            refine ⟨_, rfl, ?_⟩
            have n0_ := yD (zB (kN BK311) hb)
            have n1_ := yD (zB (kN BK312) hb)
            have n2_ := yD (zC (kB HB) hb)
            clear BK311 BK312 HB; have BK311 := n0_; have BK312 := n1_; have HB := n2_; clear n0_ n1_ n2_; (try clear hb); (try clear hb2); (try clear hk); (try clear hi)
            refine hK.out _ _ ⟨(yG BK311.out 0).trans rfl, (yG BK311.out 1).trans rfl, (yG BK311.out 2).trans rfl, (yG BK311.out 3).trans rfl, (yG BK311.out 4).trans rfl, (yG BK311.out 5).trans rfl, (yG BK311.out 6).trans rfl, (yG BK311.out 7).trans rfl, (yG BK311.out 8).trans rfl, (yG BK312.out 0).trans rfl, (yG BK312.out 1).trans rfl, (yG BK312.out 2).trans rfl, (yG BK312.out 3).trans rfl, (yG BK312.out 4).trans rfl, (yG BK312.out 5).trans rfl, (yG BK312.out 6).trans rfl, (yG BK312.out 7).trans rfl, (yG BK312.out 8).trans rfl, ((HB.out.cell (zQ w _ hw313_0)).trans hw313_0), ((HB.out.cell (zQ w _ hw313_1)).trans hw313_1), ((HB.out.cell (zQ w _ hw313_2)).trans hw313_2), ((HB.out.cell (zQ w _ hw313_3)).trans hw313_3), ((HB.out.cell (zQ w _ hw313_4)).trans hw313_4), ((HB.out.cell (zQ w _ hw313_5)).trans hw313_5), ((HB.out.cell (zQ w _ hw313_6)).trans hw313_6), ((HB.out.cell (zQ w _ hw313_7)).trans hw313_7), ((HB.out.cell (zQ w _ hw313_8)).trans hw313_8), ((HB.out.cell (zQ w _ hw313_9)).trans hw313_9), ((HB.out.cell (zQ w _ hw313_10)).trans hw313_10), ((HB.out.cell (zQ w _ hw314_0)).trans hw314_0), ((HB.out.cell (zQ w _ hw314_1)).trans hw314_1), ((HB.out.cell (zQ w _ hw314_2)).trans hw314_2), ((HB.out.cell (zQ w _ hw314_3)).trans hw314_3), ((HB.out.cell (zQ w _ hw314_4)).trans hw314_4), ((HB.out.cell (zQ w _ hw314_5)).trans hw314_5), ((HB.out.cell (zQ w _ hw314_6)).trans hw314_6), ((HB.out.cell (zQ w _ hw314_7)).trans hw314_7), ((HB.out.cell (zQ w _ hw314_8)).trans hw314_8), ((HB.out.cell (zQ w _ hw314_9)).trans hw314_9), ((HB.out.cell (zQ w _ hw314_10)).trans hw314_10), ((HB.out.cell (zQ w _ hw315_0)).trans hw315_0), ((HB.out.cell (zQ w _ hw315_1)).trans hw315_1), ((HB.out.cell (zQ w _ hw315_2)).trans hw315_2), ((HB.out.cell (zQ w _ hw315_3)).trans hw315_3), ((HB.out.cell (zQ w _ hw315_4)).trans hw315_4), ((HB.out.cell (zQ w _ hw315_5)).trans hw315_5), ((HB.out.cell (zQ w _ hw315_6)).trans hw315_6), ((HB.out.cell (zQ w _ hw315_7)).trans hw315_7), ((HB.out.cell (zQ w _ hw315_8)).trans hw315_8), ((HB.out.cell (zQ w _ hw315_9)).trans hw315_9), ((HB.out.cell (zQ w _ hw315_10)).trans hw315_10), ((HB.out.cell (zQ w _ hw316_0)).trans hw316_0), ((HB.out.cell (zQ w _ hw316_1)).trans hw316_1), ((HB.out.cell (zQ w _ hw316_2)).trans hw316_2), ((HB.out.cell (zQ w _ hw316_3)).trans hw316_3), ((HB.out.cell (zQ w _ hw316_4)).trans hw316_4), ((HB.out.cell (zQ w _ hw316_5)).trans hw316_5), ((HB.out.cell (zQ w _ hw316_6)).trans hw316_6), ((HB.out.cell (zQ w _ hw316_7)).trans hw316_7), ((HB.out.cell (zQ w _ hw316_8)).trans hw316_8), ((HB.out.cell (zQ w _ hw316_9)).trans hw316_9), ((HB.out.cell (zQ w _ hw316_10)).trans hw316_10), ((HB.out.cell (zQ w _ hw317_0)).trans hw317_0), ((HB.out.cell (zQ w _ hw317_1)).trans hw317_1), ((HB.out.cell (zQ w _ hw317_2)).trans hw317_2), ((HB.out.cell (zQ w _ hw317_3)).trans hw317_3), ((HB.out.cell (zQ w _ hw317_4)).trans hw317_4), ((HB.out.cell (zQ w _ hw317_5)).trans hw317_5), ((HB.out.cell (zQ w _ hw317_6)).trans hw317_6), ((HB.out.cell (zQ w _ hw317_7)).trans hw317_7), ((HB.out.cell (zQ w _ hw317_8)).trans hw317_8), ((HB.out.cell (zQ w _ hw317_9)).trans hw317_9), ((HB.out.cell (zQ w _ hw317_10)).trans hw317_10), ((HB.out.cell (zQ w _ hw318_0)).trans hw318_0), ((HB.out.cell (zQ w _ hw318_1)).trans hw318_1), ((HB.out.cell (zQ w _ hw318_2)).trans hw318_2), ((HB.out.cell (zQ w _ hw318_3)).trans hw318_3), ((HB.out.cell (zQ w _ hw318_4)).trans hw318_4), ((HB.out.cell (zQ w _ hw318_5)).trans hw318_5), ((HB.out.cell (zQ w _ hw318_6)).trans hw318_6), ((HB.out.cell (zQ w _ hw318_7)).trans hw318_7), ((HB.out.cell (zQ w _ hw318_8)).trans hw318_8), ((HB.out.cell (zQ w _ hw318_9)).trans hw318_9), ((HB.out.cell (zQ w _ hw318_10)).trans hw318_10)⟩ (fun hHeld => ?_)
            clear hK K
            refine norm_ (a' := ?_) ?_ ?_
            rotate_left
            · show Act.put _ (some 106) _ = _
              simp only [Act.put, zH, zI, zJ, i64_w, i32_w]
              rfl
            refine qA 42 107 (bz 44 8796093022207) HT_ ?_
            refine qA 43 108 (bz 44 17592186044415) HT_ ?_
            refine done_ (done_of HT_.out (by kernel_rfl)) ?_
            try go_wp2
            go_roundg k2
            case measure => have := HJ2.out; have := HK2.out; omega
            case rel => exact ⟨(wrap64 (x5_2 + 1)), (by first | rfl | (simp; done) | (simp [*]; done)), H', ⟨by have := HJ2.out; have := HK2.out; omega⟩, ⟨kM BK311⟩, ⟨kM BK312⟩, ⟨kR0 HB⟩⟩
           ·
            replace c40 := Bool.eq_false_iff.mpr c40
            subst c40
            replace H : (some false) = some r := (by rw [if_neg (show ¬ (false = true) by decide)] at H; exact H); obtain rfl := Option.some.inj H; have hnb45 := NB311_312.out; have hnc45 := NB312_311.out
            obtain ⟨hcz46_0, hcz46_1, hcz46_2, hcz46_3, hcz46_4, hcz46_5, hcz46_6, hcz46_7, hcz46_8⟩ := cz9 BK311.out
            obtain ⟨hfz46_0, hfz46_1, hfz46_2, hfz46_3, hfz46_4, hfz46_5, hfz46_6, hfz46_7, hfz46_8⟩ := fz9 BK311.out
            try go_wp2
            have n0_ := yD (yO BK311.out)
            have n1_ := yD (yO BK312.out)
            have n2_ := yD (yP HB.out)
            clear BK311 BK312 HB; have BK311 := n0_; have BK312 := n1_; have HB := n2_; clear n0_ n1_ n2_
            have p313 : 0 ≤ (x5_2 : Int) := zP (by assumption)
            have q313 : x5_2 < (l0_6.length : Int) := zP (by assumption)
            obtain ⟨ad313, A313_6, c313_6, A313_7, c313_7, A313_8, c313_8, A313_9, c313_9, e313, hx313_0, hx313_1, hx313_2, hx313_3, hx313_4, hx313_5, hx313_6, hx313_7, hx313_8, hx313_9, hx313_10, hl313_6, hi313_6, hl313_7, hi313_7, hl313_8, hi313_8, hl313_9, hi313_9⟩ := at_T64 HR0_6.out x5_2 p313 q313
            have hw313_10 := hx313_10; have hw313_9 := hx313_9; have hw313_8 := hx313_8; have hw313_7 := hx313_7; have hw313_6 := hx313_6; have hw313_5 := hx313_5; have hw313_4 := hx313_4; have hw313_3 := hx313_3; have hw313_2 := hx313_2; have hw313_1 := hx313_1; have hw313_0 := hx313_0; cases e313
            replace hx313_0 := (HB.out.cell (zQ w _ hx313_0)).trans hx313_0
            replace hx313_1 := (HB.out.cell (zQ w _ hx313_1)).trans hx313_1
            replace hx313_2 := (HB.out.cell (zQ w _ hx313_2)).trans hx313_2
            replace hx313_3 := (HB.out.cell (zQ w _ hx313_3)).trans hx313_3
            replace hx313_4 := (HB.out.cell (zQ w _ hx313_4)).trans hx313_4
            replace hx313_5 := (HB.out.cell (zQ w _ hx313_5)).trans hx313_5
            replace hx313_6 := (HB.out.cell (zQ w _ hx313_6)).trans hx313_6
            replace hx313_7 := (HB.out.cell (zQ w _ hx313_7)).trans hx313_7
            replace hx313_8 := (HB.out.cell (zQ w _ hx313_8)).trans hx313_8
            replace hx313_9 := (HB.out.cell (zQ w _ hx313_9)).trans hx313_9
            replace hx313_10 := (HB.out.cell (zQ w _ hx313_10)).trans hx313_10
            have HR313_6 := yD hi313_6
            have HC313_6 := yD hl313_6
            clear hi313_6 hl313_6
            have HR313_7 := yD hi313_7
            have HC313_7 := yD hl313_7
            clear hi313_7 hl313_7
            have HR313_8 := yD hi313_8
            have HC313_8 := yD hl313_8
            clear hi313_8 hl313_8
            have HR313_9 := yD hi313_9
            have HC313_9 := yD hl313_9
            clear hi313_9 hl313_9; replace p313 := eq_true p313; replace q313 := eq_true q313
            have p314 : 0 ≤ (x5_2 : Int) := zP (by assumption)
            have q314 : x5_2 < (l1_6.length : Int) := zP (by assumption)
            obtain ⟨ad314, A314_6, c314_6, A314_7, c314_7, A314_8, c314_8, A314_9, c314_9, e314, hx314_0, hx314_1, hx314_2, hx314_3, hx314_4, hx314_5, hx314_6, hx314_7, hx314_8, hx314_9, hx314_10, hl314_6, hi314_6, hl314_7, hi314_7, hl314_8, hi314_8, hl314_9, hi314_9⟩ := at_T64 HR1_6.out x5_2 p314 q314
            have hw314_10 := hx314_10; have hw314_9 := hx314_9; have hw314_8 := hx314_8; have hw314_7 := hx314_7; have hw314_6 := hx314_6; have hw314_5 := hx314_5; have hw314_4 := hx314_4; have hw314_3 := hx314_3; have hw314_2 := hx314_2; have hw314_1 := hx314_1; have hw314_0 := hx314_0; cases e314
            replace hx314_0 := (HB.out.cell (zQ w _ hx314_0)).trans hx314_0
            replace hx314_1 := (HB.out.cell (zQ w _ hx314_1)).trans hx314_1
            replace hx314_2 := (HB.out.cell (zQ w _ hx314_2)).trans hx314_2
            replace hx314_3 := (HB.out.cell (zQ w _ hx314_3)).trans hx314_3
            replace hx314_4 := (HB.out.cell (zQ w _ hx314_4)).trans hx314_4
            replace hx314_5 := (HB.out.cell (zQ w _ hx314_5)).trans hx314_5
            replace hx314_6 := (HB.out.cell (zQ w _ hx314_6)).trans hx314_6
            replace hx314_7 := (HB.out.cell (zQ w _ hx314_7)).trans hx314_7
            replace hx314_8 := (HB.out.cell (zQ w _ hx314_8)).trans hx314_8
            replace hx314_9 := (HB.out.cell (zQ w _ hx314_9)).trans hx314_9
            replace hx314_10 := (HB.out.cell (zQ w _ hx314_10)).trans hx314_10
            have HR314_6 := yD hi314_6
            have HC314_6 := yD hl314_6
            clear hi314_6 hl314_6
            have HR314_7 := yD hi314_7
            have HC314_7 := yD hl314_7
            clear hi314_7 hl314_7
            have HR314_8 := yD hi314_8
            have HC314_8 := yD hl314_8
            clear hi314_8 hl314_8
            have HR314_9 := yD hi314_9
            have HC314_9 := yD hl314_9
            clear hi314_9 hl314_9; replace p314 := eq_true p314; replace q314 := eq_true q314
            have p315 : 0 ≤ (x5_2 : Int) := zP (by assumption)
            have q315 : x5_2 < (l0_6.length : Int) := zP (by assumption)
            obtain ⟨ad315, A315_6, c315_6, A315_7, c315_7, A315_8, c315_8, A315_9, c315_9, e315, hx315_0, hx315_1, hx315_2, hx315_3, hx315_4, hx315_5, hx315_6, hx315_7, hx315_8, hx315_9, hx315_10, hl315_6, hi315_6, hl315_7, hi315_7, hl315_8, hi315_8, hl315_9, hi315_9⟩ := at_T64 HR0_6.out x5_2 p315 q315
            have hw315_10 := hx315_10; have hw315_9 := hx315_9; have hw315_8 := hx315_8; have hw315_7 := hx315_7; have hw315_6 := hx315_6; have hw315_5 := hx315_5; have hw315_4 := hx315_4; have hw315_3 := hx315_3; have hw315_2 := hx315_2; have hw315_1 := hx315_1; have hw315_0 := hx315_0
            obtain rfl : ad313 = ad315 := (by injection e315)
            replace hx315_0 := (HB.out.cell (zQ w _ hx315_0)).trans hx315_0
            replace hx315_1 := (HB.out.cell (zQ w _ hx315_1)).trans hx315_1
            replace hx315_2 := (HB.out.cell (zQ w _ hx315_2)).trans hx315_2
            replace hx315_3 := (HB.out.cell (zQ w _ hx315_3)).trans hx315_3
            replace hx315_4 := (HB.out.cell (zQ w _ hx315_4)).trans hx315_4
            replace hx315_5 := (HB.out.cell (zQ w _ hx315_5)).trans hx315_5
            replace hx315_6 := (HB.out.cell (zQ w _ hx315_6)).trans hx315_6
            replace hx315_7 := (HB.out.cell (zQ w _ hx315_7)).trans hx315_7
            replace hx315_8 := (HB.out.cell (zQ w _ hx315_8)).trans hx315_8
            replace hx315_9 := (HB.out.cell (zQ w _ hx315_9)).trans hx315_9
            replace hx315_10 := (HB.out.cell (zQ w _ hx315_10)).trans hx315_10
            have HR315_6 := yD hi315_6
            have HC315_6 := yD hl315_6
            clear hi315_6 hl315_6
            have HR315_7 := yD hi315_7
            have HC315_7 := yD hl315_7
            clear hi315_7 hl315_7
            have HR315_8 := yD hi315_8
            have HC315_8 := yD hl315_8
            clear hi315_8 hl315_8
            have HR315_9 := yD hi315_9
            have HC315_9 := yD hl315_9
            clear hi315_9 hl315_9; replace p315 := eq_true p315; replace q315 := eq_true q315
            have ea_ := Option.some.inj (hx313_6.symm.trans hx315_6)
            injection ea_ with ea_ en_ ec_
            subst ea_; subst ec_; clear en_
            have ea_ := Option.some.inj (hx313_7.symm.trans hx315_7)
            injection ea_ with ea_ en_ ec_
            subst ea_; subst ec_; clear en_
            have ea_ := Option.some.inj (hx313_8.symm.trans hx315_8)
            injection ea_ with ea_ en_ ec_
            subst ea_; subst ec_; clear en_
            have ea_ := Option.some.inj (hx313_9.symm.trans hx315_9)
            injection ea_ with ea_ en_ ec_
            subst ea_; subst ec_; clear en_
            have p316 : 0 ≤ (x5_2 : Int) := zP (by assumption)
            have q316 : x5_2 < (l1_6.length : Int) := zP (by assumption)
            obtain ⟨ad316, A316_6, c316_6, A316_7, c316_7, A316_8, c316_8, A316_9, c316_9, e316, hx316_0, hx316_1, hx316_2, hx316_3, hx316_4, hx316_5, hx316_6, hx316_7, hx316_8, hx316_9, hx316_10, hl316_6, hi316_6, hl316_7, hi316_7, hl316_8, hi316_8, hl316_9, hi316_9⟩ := at_T64 HR1_6.out x5_2 p316 q316
            have hw316_10 := hx316_10; have hw316_9 := hx316_9; have hw316_8 := hx316_8; have hw316_7 := hx316_7; have hw316_6 := hx316_6; have hw316_5 := hx316_5; have hw316_4 := hx316_4; have hw316_3 := hx316_3; have hw316_2 := hx316_2; have hw316_1 := hx316_1; have hw316_0 := hx316_0
            obtain rfl : ad314 = ad316 := (by injection e316)
            replace hx316_0 := (HB.out.cell (zQ w _ hx316_0)).trans hx316_0
            replace hx316_1 := (HB.out.cell (zQ w _ hx316_1)).trans hx316_1
            replace hx316_2 := (HB.out.cell (zQ w _ hx316_2)).trans hx316_2
            replace hx316_3 := (HB.out.cell (zQ w _ hx316_3)).trans hx316_3
            replace hx316_4 := (HB.out.cell (zQ w _ hx316_4)).trans hx316_4
            replace hx316_5 := (HB.out.cell (zQ w _ hx316_5)).trans hx316_5
            replace hx316_6 := (HB.out.cell (zQ w _ hx316_6)).trans hx316_6
            replace hx316_7 := (HB.out.cell (zQ w _ hx316_7)).trans hx316_7
            replace hx316_8 := (HB.out.cell (zQ w _ hx316_8)).trans hx316_8
            replace hx316_9 := (HB.out.cell (zQ w _ hx316_9)).trans hx316_9
            replace hx316_10 := (HB.out.cell (zQ w _ hx316_10)).trans hx316_10
            have HR316_6 := yD hi316_6
            have HC316_6 := yD hl316_6
            clear hi316_6 hl316_6
            have HR316_7 := yD hi316_7
            have HC316_7 := yD hl316_7
            clear hi316_7 hl316_7
            have HR316_8 := yD hi316_8
            have HC316_8 := yD hl316_8
            clear hi316_8 hl316_8
            have HR316_9 := yD hi316_9
            have HC316_9 := yD hl316_9
            clear hi316_9 hl316_9; replace p316 := eq_true p316; replace q316 := eq_true q316
            have ea_ := Option.some.inj (hx314_6.symm.trans hx316_6)
            injection ea_ with ea_ en_ ec_
            subst ea_; subst ec_; clear en_
            have ea_ := Option.some.inj (hx314_7.symm.trans hx316_7)
            injection ea_ with ea_ en_ ec_
            subst ea_; subst ec_; clear en_
            have ea_ := Option.some.inj (hx314_8.symm.trans hx316_8)
            injection ea_ with ea_ en_ ec_
            subst ea_; subst ec_; clear en_
            have ea_ := Option.some.inj (hx314_9.symm.trans hx316_9)
            injection ea_ with ea_ en_ ec_
            subst ea_; subst ec_; clear en_
            have p317 : 0 ≤ (x5_2 : Int) := zP (by assumption)
            have q317 : x5_2 < (l0_6.length : Int) := zP (by assumption)
            obtain ⟨ad317, A317_6, c317_6, A317_7, c317_7, A317_8, c317_8, A317_9, c317_9, e317, hx317_0, hx317_1, hx317_2, hx317_3, hx317_4, hx317_5, hx317_6, hx317_7, hx317_8, hx317_9, hx317_10, hl317_6, hi317_6, hl317_7, hi317_7, hl317_8, hi317_8, hl317_9, hi317_9⟩ := at_T64 HR0_6.out x5_2 p317 q317
            have hw317_10 := hx317_10; have hw317_9 := hx317_9; have hw317_8 := hx317_8; have hw317_7 := hx317_7; have hw317_6 := hx317_6; have hw317_5 := hx317_5; have hw317_4 := hx317_4; have hw317_3 := hx317_3; have hw317_2 := hx317_2; have hw317_1 := hx317_1; have hw317_0 := hx317_0
            obtain rfl : ad313 = ad317 := (by injection e317)
            replace hx317_0 := (HB.out.cell (zQ w _ hx317_0)).trans hx317_0
            replace hx317_1 := (HB.out.cell (zQ w _ hx317_1)).trans hx317_1
            replace hx317_2 := (HB.out.cell (zQ w _ hx317_2)).trans hx317_2
            replace hx317_3 := (HB.out.cell (zQ w _ hx317_3)).trans hx317_3
            replace hx317_4 := (HB.out.cell (zQ w _ hx317_4)).trans hx317_4
            replace hx317_5 := (HB.out.cell (zQ w _ hx317_5)).trans hx317_5
            replace hx317_6 := (HB.out.cell (zQ w _ hx317_6)).trans hx317_6
            replace hx317_7 := (HB.out.cell (zQ w _ hx317_7)).trans hx317_7
            replace hx317_8 := (HB.out.cell (zQ w _ hx317_8)).trans hx317_8
            replace hx317_9 := (HB.out.cell (zQ w _ hx317_9)).trans hx317_9
            replace hx317_10 := (HB.out.cell (zQ w _ hx317_10)).trans hx317_10
            have HR317_6 := yD hi317_6
            have HC317_6 := yD hl317_6
            clear hi317_6 hl317_6
            have HR317_7 := yD hi317_7
            have HC317_7 := yD hl317_7
            clear hi317_7 hl317_7
            have HR317_8 := yD hi317_8
            have HC317_8 := yD hl317_8
            clear hi317_8 hl317_8
            have HR317_9 := yD hi317_9
            have HC317_9 := yD hl317_9
            clear hi317_9 hl317_9; replace p317 := eq_true p317; replace q317 := eq_true q317
            have ea_ := Option.some.inj (hx313_6.symm.trans hx317_6)
            injection ea_ with ea_ en_ ec_
            subst ea_; subst ec_; clear en_
            have ea_ := Option.some.inj (hx313_7.symm.trans hx317_7)
            injection ea_ with ea_ en_ ec_
            subst ea_; subst ec_; clear en_
            have ea_ := Option.some.inj (hx313_8.symm.trans hx317_8)
            injection ea_ with ea_ en_ ec_
            subst ea_; subst ec_; clear en_
            have ea_ := Option.some.inj (hx313_9.symm.trans hx317_9)
            injection ea_ with ea_ en_ ec_
            subst ea_; subst ec_; clear en_
            have p318 : 0 ≤ (x5_2 : Int) := zP (by assumption)
            have q318 : x5_2 < (l1_6.length : Int) := zP (by assumption)
            obtain ⟨ad318, A318_6, c318_6, A318_7, c318_7, A318_8, c318_8, A318_9, c318_9, e318, hx318_0, hx318_1, hx318_2, hx318_3, hx318_4, hx318_5, hx318_6, hx318_7, hx318_8, hx318_9, hx318_10, hl318_6, hi318_6, hl318_7, hi318_7, hl318_8, hi318_8, hl318_9, hi318_9⟩ := at_T64 HR1_6.out x5_2 p318 q318
            have hw318_10 := hx318_10; have hw318_9 := hx318_9; have hw318_8 := hx318_8; have hw318_7 := hx318_7; have hw318_6 := hx318_6; have hw318_5 := hx318_5; have hw318_4 := hx318_4; have hw318_3 := hx318_3; have hw318_2 := hx318_2; have hw318_1 := hx318_1; have hw318_0 := hx318_0
            obtain rfl : ad314 = ad318 := (by injection e318)
            replace hx318_0 := (HB.out.cell (zQ w _ hx318_0)).trans hx318_0
            replace hx318_1 := (HB.out.cell (zQ w _ hx318_1)).trans hx318_1
            replace hx318_2 := (HB.out.cell (zQ w _ hx318_2)).trans hx318_2
            replace hx318_3 := (HB.out.cell (zQ w _ hx318_3)).trans hx318_3
            replace hx318_4 := (HB.out.cell (zQ w _ hx318_4)).trans hx318_4
            replace hx318_5 := (HB.out.cell (zQ w _ hx318_5)).trans hx318_5
            replace hx318_6 := (HB.out.cell (zQ w _ hx318_6)).trans hx318_6
            replace hx318_7 := (HB.out.cell (zQ w _ hx318_7)).trans hx318_7
            replace hx318_8 := (HB.out.cell (zQ w _ hx318_8)).trans hx318_8
            replace hx318_9 := (HB.out.cell (zQ w _ hx318_9)).trans hx318_9
            replace hx318_10 := (HB.out.cell (zQ w _ hx318_10)).trans hx318_10
            have HR318_6 := yD hi318_6
            have HC318_6 := yD hl318_6
            clear hi318_6 hl318_6
            have HR318_7 := yD hi318_7
            have HC318_7 := yD hl318_7
            clear hi318_7 hl318_7
            have HR318_8 := yD hi318_8
            have HC318_8 := yD hl318_8
            clear hi318_8 hl318_8
            have HR318_9 := yD hi318_9
            have HC318_9 := yD hl318_9
            clear hi318_9 hl318_9; replace p318 := eq_true p318; replace q318 := eq_true q318
            have ea_ := Option.some.inj (hx314_6.symm.trans hx318_6)
            injection ea_ with ea_ en_ ec_
            subst ea_; subst ec_; clear en_
            have ea_ := Option.some.inj (hx314_7.symm.trans hx318_7)
            injection ea_ with ea_ en_ ec_
            subst ea_; subst ec_; clear en_
            have ea_ := Option.some.inj (hx314_8.symm.trans hx318_8)
            injection ea_ with ea_ en_ ec_
            subst ea_; subst ec_; clear en_
            have ea_ := Option.some.inj (hx314_9.symm.trans hx318_9)
            injection ea_ with ea_ en_ ec_
            subst ea_; subst ec_; clear en_
            refine start_ (n := 44) (S := fun w' => w'.cell? ⟨gb311, 0, none⟩ = some (.int .i64 a0_0) ∧ w'.cell? ⟨gb311, 1, none⟩ = some (.int .i64 a0_1) ∧ w'.cell? ⟨gb311, 2, none⟩ = some (.bool a0_2) ∧ w'.cell? ⟨gb311, 3, none⟩ = some (.bool a0_3) ∧ w'.cell? ⟨gb311, 4, none⟩ = some (.slice A0_4 l0_4.length c0_4) ∧ w'.cell? ⟨gb311, 5, none⟩ = some (.slice A0_5 l0_5.length c0_5) ∧ w'.cell? ⟨gb311, 6, none⟩ = some (.slice (some ad313) l0_6.length c0_6) ∧ w'.cell? ⟨gb311, 7, none⟩ = some (.slice A0_7 l0_7.length c0_7) ∧ w'.cell? ⟨gb311, 8, none⟩ = some (.int .i64 a0_8) ∧ w'.cell? ⟨gb312, 0, none⟩ = some (.int .i64 a1_0) ∧ w'.cell? ⟨gb312, 1, none⟩ = some (.int .i64 a1_1) ∧ w'.cell? ⟨gb312, 2, none⟩ = some (.bool a1_2) ∧ w'.cell? ⟨gb312, 3, none⟩ = some (.bool a1_3) ∧ w'.cell? ⟨gb312, 4, none⟩ = some (.slice A1_4 l1_4.length c1_4) ∧ w'.cell? ⟨gb312, 5, none⟩ = some (.slice A1_5 l1_5.length c1_5) ∧ w'.cell? ⟨gb312, 6, none⟩ = some (.slice (some ad314) l1_6.length c1_6) ∧ w'.cell? ⟨gb312, 7, none⟩ = some (.slice A1_7 l1_7.length c1_7) ∧ w'.cell? ⟨gb312, 8, none⟩ = some (.int .i64 a1_8) ∧ w'.cell? (ad313.add ((x5_2).toNat * 11)) = some (.string ((rd_T64 l0_6 x5_2).f0)) ∧ w'.cell? ⟨(ad313.add ((x5_2).toNat * 11)).block, (ad313.add ((x5_2).toNat * 11)).off + 1, none⟩ = some (.int .i64 ((rd_T64 l0_6 x5_2).f1)) ∧ w'.cell? ⟨(ad313.add ((x5_2).toNat * 11)).block, (ad313.add ((x5_2).toNat * 11)).off + 2, none⟩ = some (.int .i64 ((rd_T64 l0_6 x5_2).f2.f0)) ∧ w'.cell? ⟨(ad313.add ((x5_2).toNat * 11)).block, (ad313.add ((x5_2).toNat * 11)).off + 3, none⟩ = some (.int .i64 ((rd_T64 l0_6 x5_2).f2.f1)) ∧ w'.cell? ⟨(ad313.add ((x5_2).toNat * 11)).block, (ad313.add ((x5_2).toNat * 11)).off + 4, none⟩ = some (.bool ((rd_T64 l0_6 x5_2).f2.f2)) ∧ w'.cell? ⟨(ad313.add ((x5_2).toNat * 11)).block, (ad313.add ((x5_2).toNat * 11)).off + 5, none⟩ = some (.bool ((rd_T64 l0_6 x5_2).f2.f3)) ∧ w'.cell? ⟨(ad313.add ((x5_2).toNat * 11)).block, (ad313.add ((x5_2).toNat * 11)).off + 6, none⟩ = some (.slice A313_6 ((rd_T64 l0_6 x5_2).f2.f4).length c313_6) ∧ w'.cell? ⟨(ad313.add ((x5_2).toNat * 11)).block, (ad313.add ((x5_2).toNat * 11)).off + 7, none⟩ = some (.slice A313_7 ((rd_T64 l0_6 x5_2).f2.f5).length c313_7) ∧ w'.cell? ⟨(ad313.add ((x5_2).toNat * 11)).block, (ad313.add ((x5_2).toNat * 11)).off + 8, none⟩ = some (.slice A313_8 ((rd_T64 l0_6 x5_2).f2.f6).length c313_8) ∧ w'.cell? ⟨(ad313.add ((x5_2).toNat * 11)).block, (ad313.add ((x5_2).toNat * 11)).off + 9, none⟩ = some (.slice A313_9 ((rd_T64 l0_6 x5_2).f2.f7).length c313_9) ∧ w'.cell? ⟨(ad313.add ((x5_2).toNat * 11)).block, (ad313.add ((x5_2).toNat * 11)).off + 10, none⟩ = some (.int .i64 ((rd_T64 l0_6 x5_2).f2.f8)) ∧ w'.cell? (ad314.add ((x5_2).toNat * 11)) = some (.string ((rd_T64 l1_6 x5_2).f0)) ∧ w'.cell? ⟨(ad314.add ((x5_2).toNat * 11)).block, (ad314.add ((x5_2).toNat * 11)).off + 1, none⟩ = some (.int .i64 ((rd_T64 l1_6 x5_2).f1)) ∧ w'.cell? ⟨(ad314.add ((x5_2).toNat * 11)).block, (ad314.add ((x5_2).toNat * 11)).off + 2, none⟩ = some (.int .i64 ((rd_T64 l1_6 x5_2).f2.f0)) ∧ w'.cell? ⟨(ad314.add ((x5_2).toNat * 11)).block, (ad314.add ((x5_2).toNat * 11)).off + 3, none⟩ = some (.int .i64 ((rd_T64 l1_6 x5_2).f2.f1)) ∧ w'.cell? ⟨(ad314.add ((x5_2).toNat * 11)).block, (ad314.add ((x5_2).toNat * 11)).off + 4, none⟩ = some (.bool ((rd_T64 l1_6 x5_2).f2.f2)) ∧ w'.cell? ⟨(ad314.add ((x5_2).toNat * 11)).block, (ad314.add ((x5_2).toNat * 11)).off + 5, none⟩ = some (.bool ((rd_T64 l1_6 x5_2).f2.f3)) ∧ w'.cell? ⟨(ad314.add ((x5_2).toNat * 11)).block, (ad314.add ((x5_2).toNat * 11)).off + 6, none⟩ = some (.slice A314_6 ((rd_T64 l1_6 x5_2).f2.f4).length c314_6) ∧ w'.cell? ⟨(ad314.add ((x5_2).toNat * 11)).block, (ad314.add ((x5_2).toNat * 11)).off + 7, none⟩ = some (.slice A314_7 ((rd_T64 l1_6 x5_2).f2.f5).length c314_7) ∧ w'.cell? ⟨(ad314.add ((x5_2).toNat * 11)).block, (ad314.add ((x5_2).toNat * 11)).off + 8, none⟩ = some (.slice A314_8 ((rd_T64 l1_6 x5_2).f2.f6).length c314_8) ∧ w'.cell? ⟨(ad314.add ((x5_2).toNat * 11)).block, (ad314.add ((x5_2).toNat * 11)).off + 9, none⟩ = some (.slice A314_9 ((rd_T64 l1_6 x5_2).f2.f7).length c314_9) ∧ w'.cell? ⟨(ad314.add ((x5_2).toNat * 11)).block, (ad314.add ((x5_2).toNat * 11)).off + 10, none⟩ = some (.int .i64 ((rd_T64 l1_6 x5_2).f2.f8)) ∧ w'.cell? (ad313.add ((x5_2).toNat * 11)) = some (.string ((rd_T64 l0_6 x5_2).f0)) ∧ w'.cell? ⟨(ad313.add ((x5_2).toNat * 11)).block, (ad313.add ((x5_2).toNat * 11)).off + 1, none⟩ = some (.int .i64 ((rd_T64 l0_6 x5_2).f1)) ∧ w'.cell? ⟨(ad313.add ((x5_2).toNat * 11)).block, (ad313.add ((x5_2).toNat * 11)).off + 2, none⟩ = some (.int .i64 ((rd_T64 l0_6 x5_2).f2.f0)) ∧ w'.cell? ⟨(ad313.add ((x5_2).toNat * 11)).block, (ad313.add ((x5_2).toNat * 11)).off + 3, none⟩ = some (.int .i64 ((rd_T64 l0_6 x5_2).f2.f1)) ∧ w'.cell? ⟨(ad313.add ((x5_2).toNat * 11)).block, (ad313.add ((x5_2).toNat * 11)).off + 4, none⟩ = some (.bool ((rd_T64 l0_6 x5_2).f2.f2)) ∧ w'.cell? ⟨(ad313.add ((x5_2).toNat * 11)).block, (ad313.add ((x5_2).toNat * 11)).off + 5, none⟩ = some (.bool ((rd_T64 l0_6 x5_2).f2.f3)) ∧ w'.cell? ⟨(ad313.add ((x5_2).toNat * 11)).block, (ad313.add ((x5_2).toNat * 11)).off + 6, none⟩ = some (.slice A313_6 ((rd_T64 l0_6 x5_2).f2.f4).length c313_6) ∧ w'.cell? ⟨(ad313.add ((x5_2).toNat * 11)).block, (ad313.add ((x5_2).toNat * 11)).off + 7, none⟩ = some (.slice A313_7 ((rd_T64 l0_6 x5_2).f2.f5).length c313_7) ∧ w'.cell? ⟨(ad313.add ((x5_2).toNat * 11)).block, (ad313.add ((x5_2).toNat * 11)).off + 8, none⟩ = some (.slice A313_8 ((rd_T64 l0_6 x5_2).f2.f6).length c313_8) ∧ w'.cell? ⟨(ad313.add ((x5_2).toNat * 11)).block, (ad313.add ((x5_2).toNat * 11)).off + 9, none⟩ = some (.slice A313_9 ((rd_T64 l0_6 x5_2).f2.f7).length c313_9) ∧ w'.cell? ⟨(ad313.add ((x5_2).toNat * 11)).block, (ad313.add ((x5_2).toNat * 11)).off + 10, none⟩ = some (.int .i64 ((rd_T64 l0_6 x5_2).f2.f8)) ∧ w'.cell? (ad314.add ((x5_2).toNat * 11)) = some (.string ((rd_T64 l1_6 x5_2).f0)) ∧ w'.cell? ⟨(ad314.add ((x5_2).toNat * 11)).block, (ad314.add ((x5_2).toNat * 11)).off + 1, none⟩ = some (.int .i64 ((rd_T64 l1_6 x5_2).f1)) ∧ w'.cell? ⟨(ad314.add ((x5_2).toNat * 11)).block, (ad314.add ((x5_2).toNat * 11)).off + 2, none⟩ = some (.int .i64 ((rd_T64 l1_6 x5_2).f2.f0)) ∧ w'.cell? ⟨(ad314.add ((x5_2).toNat * 11)).block, (ad314.add ((x5_2).toNat * 11)).off + 3, none⟩ = some (.int .i64 ((rd_T64 l1_6 x5_2).f2.f1)) ∧ w'.cell? ⟨(ad314.add ((x5_2).toNat * 11)).block, (ad314.add ((x5_2).toNat * 11)).off + 4, none⟩ = some (.bool ((rd_T64 l1_6 x5_2).f2.f2)) ∧ w'.cell? ⟨(ad314.add ((x5_2).toNat * 11)).block, (ad314.add ((x5_2).toNat * 11)).off + 5, none⟩ = some (.bool ((rd_T64 l1_6 x5_2).f2.f3)) ∧ w'.cell? ⟨(ad314.add ((x5_2).toNat * 11)).block, (ad314.add ((x5_2).toNat * 11)).off + 6, none⟩ = some (.slice A314_6 ((rd_T64 l1_6 x5_2).f2.f4).length c314_6) ∧ w'.cell? ⟨(ad314.add ((x5_2).toNat * 11)).block, (ad314.add ((x5_2).toNat * 11)).off + 7, none⟩ = some (.slice A314_7 ((rd_T64 l1_6 x5_2).f2.f5).length c314_7) ∧ w'.cell? ⟨(ad314.add ((x5_2).toNat * 11)).block, (ad314.add ((x5_2).toNat * 11)).off + 8, none⟩ = some (.slice A314_8 ((rd_T64 l1_6 x5_2).f2.f6).length c314_8) ∧ w'.cell? ⟨(ad314.add ((x5_2).toNat * 11)).block, (ad314.add ((x5_2).toNat * 11)).off + 9, none⟩ = some (.slice A314_9 ((rd_T64 l1_6 x5_2).f2.f7).length c314_9) ∧ w'.cell? ⟨(ad314.add ((x5_2).toNat * 11)).block, (ad314.add ((x5_2).toNat * 11)).off + 10, none⟩ = some (.int .i64 ((rd_T64 l1_6 x5_2).f2.f8)) ∧ w'.cell? (ad313.add ((x5_2).toNat * 11)) = some (.string ((rd_T64 l0_6 x5_2).f0)) ∧ w'.cell? ⟨(ad313.add ((x5_2).toNat * 11)).block, (ad313.add ((x5_2).toNat * 11)).off + 1, none⟩ = some (.int .i64 ((rd_T64 l0_6 x5_2).f1)) ∧ w'.cell? ⟨(ad313.add ((x5_2).toNat * 11)).block, (ad313.add ((x5_2).toNat * 11)).off + 2, none⟩ = some (.int .i64 ((rd_T64 l0_6 x5_2).f2.f0)) ∧ w'.cell? ⟨(ad313.add ((x5_2).toNat * 11)).block, (ad313.add ((x5_2).toNat * 11)).off + 3, none⟩ = some (.int .i64 ((rd_T64 l0_6 x5_2).f2.f1)) ∧ w'.cell? ⟨(ad313.add ((x5_2).toNat * 11)).block, (ad313.add ((x5_2).toNat * 11)).off + 4, none⟩ = some (.bool ((rd_T64 l0_6 x5_2).f2.f2)) ∧ w'.cell? ⟨(ad313.add ((x5_2).toNat * 11)).block, (ad313.add ((x5_2).toNat * 11)).off + 5, none⟩ = some (.bool ((rd_T64 l0_6 x5_2).f2.f3)) ∧ w'.cell? ⟨(ad313.add ((x5_2).toNat * 11)).block, (ad313.add ((x5_2).toNat * 11)).off + 6, none⟩ = some (.slice A313_6 ((rd_T64 l0_6 x5_2).f2.f4).length c313_6) ∧ w'.cell? ⟨(ad313.add ((x5_2).toNat * 11)).block, (ad313.add ((x5_2).toNat * 11)).off + 7, none⟩ = some (.slice A313_7 ((rd_T64 l0_6 x5_2).f2.f5).length c313_7) ∧ w'.cell? ⟨(ad313.add ((x5_2).toNat * 11)).block, (ad313.add ((x5_2).toNat * 11)).off + 8, none⟩ = some (.slice A313_8 ((rd_T64 l0_6 x5_2).f2.f6).length c313_8) ∧ w'.cell? ⟨(ad313.add ((x5_2).toNat * 11)).block, (ad313.add ((x5_2).toNat * 11)).off + 9, none⟩ = some (.slice A313_9 ((rd_T64 l0_6 x5_2).f2.f7).length c313_9) ∧ w'.cell? ⟨(ad313.add ((x5_2).toNat * 11)).block, (ad313.add ((x5_2).toNat * 11)).off + 10, none⟩ = some (.int .i64 ((rd_T64 l0_6 x5_2).f2.f8)) ∧ w'.cell? (ad314.add ((x5_2).toNat * 11)) = some (.string ((rd_T64 l1_6 x5_2).f0)) ∧ w'.cell? ⟨(ad314.add ((x5_2).toNat * 11)).block, (ad314.add ((x5_2).toNat * 11)).off + 1, none⟩ = some (.int .i64 ((rd_T64 l1_6 x5_2).f1)) ∧ w'.cell? ⟨(ad314.add ((x5_2).toNat * 11)).block, (ad314.add ((x5_2).toNat * 11)).off + 2, none⟩ = some (.int .i64 ((rd_T64 l1_6 x5_2).f2.f0)) ∧ w'.cell? ⟨(ad314.add ((x5_2).toNat * 11)).block, (ad314.add ((x5_2).toNat * 11)).off + 3, none⟩ = some (.int .i64 ((rd_T64 l1_6 x5_2).f2.f1)) ∧ w'.cell? ⟨(ad314.add ((x5_2).toNat * 11)).block, (ad314.add ((x5_2).toNat * 11)).off + 4, none⟩ = some (.bool ((rd_T64 l1_6 x5_2).f2.f2)) ∧ w'.cell? ⟨(ad314.add ((x5_2).toNat * 11)).block, (ad314.add ((x5_2).toNat * 11)).off + 5, none⟩ = some (.bool ((rd_T64 l1_6 x5_2).f2.f3)) ∧ w'.cell? ⟨(ad314.add ((x5_2).toNat * 11)).block, (ad314.add ((x5_2).toNat * 11)).off + 6, none⟩ = some (.slice A314_6 ((rd_T64 l1_6 x5_2).f2.f4).length c314_6) ∧ w'.cell? ⟨(ad314.add ((x5_2).toNat * 11)).block, (ad314.add ((x5_2).toNat * 11)).off + 7, none⟩ = some (.slice A314_7 ((rd_T64 l1_6 x5_2).f2.f5).length c314_7) ∧ w'.cell? ⟨(ad314.add ((x5_2).toNat * 11)).block, (ad314.add ((x5_2).toNat * 11)).off + 8, none⟩ = some (.slice A314_8 ((rd_T64 l1_6 x5_2).f2.f6).length c314_8) ∧ w'.cell? ⟨(ad314.add ((x5_2).toNat * 11)).block, (ad314.add ((x5_2).toNat * 11)).off + 9, none⟩ = some (.slice A314_9 ((rd_T64 l1_6 x5_2).f2.f7).length c314_9) ∧ w'.cell? ⟨(ad314.add ((x5_2).toNat * 11)).block, (ad314.add ((x5_2).toNat * 11)).off + 10, none⟩ = some (.int .i64 ((rd_T64 l1_6 x5_2).f2.f8))) (ds := []) (bz 44 0) (by kernel_rfl) rfl rfl ⟨(yG BK311.out 0).trans rfl, (yG BK311.out 1).trans rfl, (yG BK311.out 2).trans rfl, (yG BK311.out 3).trans rfl, (yG BK311.out 4).trans rfl, (yG BK311.out 5).trans rfl, (yG BK311.out 6).trans rfl, (yG BK311.out 7).trans rfl, (yG BK311.out 8).trans rfl, (yG BK312.out 0).trans rfl, (yG BK312.out 1).trans rfl, (yG BK312.out 2).trans rfl, (yG BK312.out 3).trans rfl, (yG BK312.out 4).trans rfl, (yG BK312.out 5).trans rfl, (yG BK312.out 6).trans rfl, (yG BK312.out 7).trans rfl, (yG BK312.out 8).trans rfl, ((HB.out.cell (zQ w _ hw313_0)).trans hw313_0), ((HB.out.cell (zQ w _ hw313_1)).trans hw313_1), ((HB.out.cell (zQ w _ hw313_2)).trans hw313_2), ((HB.out.cell (zQ w _ hw313_3)).trans hw313_3), ((HB.out.cell (zQ w _ hw313_4)).trans hw313_4), ((HB.out.cell (zQ w _ hw313_5)).trans hw313_5), ((HB.out.cell (zQ w _ hw313_6)).trans hw313_6), ((HB.out.cell (zQ w _ hw313_7)).trans hw313_7), ((HB.out.cell (zQ w _ hw313_8)).trans hw313_8), ((HB.out.cell (zQ w _ hw313_9)).trans hw313_9), ((HB.out.cell (zQ w _ hw313_10)).trans hw313_10), ((HB.out.cell (zQ w _ hw314_0)).trans hw314_0), ((HB.out.cell (zQ w _ hw314_1)).trans hw314_1), ((HB.out.cell (zQ w _ hw314_2)).trans hw314_2), ((HB.out.cell (zQ w _ hw314_3)).trans hw314_3), ((HB.out.cell (zQ w _ hw314_4)).trans hw314_4), ((HB.out.cell (zQ w _ hw314_5)).trans hw314_5), ((HB.out.cell (zQ w _ hw314_6)).trans hw314_6), ((HB.out.cell (zQ w _ hw314_7)).trans hw314_7), ((HB.out.cell (zQ w _ hw314_8)).trans hw314_8), ((HB.out.cell (zQ w _ hw314_9)).trans hw314_9), ((HB.out.cell (zQ w _ hw314_10)).trans hw314_10), ((HB.out.cell (zQ w _ hw315_0)).trans hw315_0), ((HB.out.cell (zQ w _ hw315_1)).trans hw315_1), ((HB.out.cell (zQ w _ hw315_2)).trans hw315_2), ((HB.out.cell (zQ w _ hw315_3)).trans hw315_3), ((HB.out.cell (zQ w _ hw315_4)).trans hw315_4), ((HB.out.cell (zQ w _ hw315_5)).trans hw315_5), ((HB.out.cell (zQ w _ hw315_6)).trans hw315_6), ((HB.out.cell (zQ w _ hw315_7)).trans hw315_7), ((HB.out.cell (zQ w _ hw315_8)).trans hw315_8), ((HB.out.cell (zQ w _ hw315_9)).trans hw315_9), ((HB.out.cell (zQ w _ hw315_10)).trans hw315_10), ((HB.out.cell (zQ w _ hw316_0)).trans hw316_0), ((HB.out.cell (zQ w _ hw316_1)).trans hw316_1), ((HB.out.cell (zQ w _ hw316_2)).trans hw316_2), ((HB.out.cell (zQ w _ hw316_3)).trans hw316_3), ((HB.out.cell (zQ w _ hw316_4)).trans hw316_4), ((HB.out.cell (zQ w _ hw316_5)).trans hw316_5), ((HB.out.cell (zQ w _ hw316_6)).trans hw316_6), ((HB.out.cell (zQ w _ hw316_7)).trans hw316_7), ((HB.out.cell (zQ w _ hw316_8)).trans hw316_8), ((HB.out.cell (zQ w _ hw316_9)).trans hw316_9), ((HB.out.cell (zQ w _ hw316_10)).trans hw316_10), ((HB.out.cell (zQ w _ hw317_0)).trans hw317_0), ((HB.out.cell (zQ w _ hw317_1)).trans hw317_1), ((HB.out.cell (zQ w _ hw317_2)).trans hw317_2), ((HB.out.cell (zQ w _ hw317_3)).trans hw317_3), ((HB.out.cell (zQ w _ hw317_4)).trans hw317_4), ((HB.out.cell (zQ w _ hw317_5)).trans hw317_5), ((HB.out.cell (zQ w _ hw317_6)).trans hw317_6), ((HB.out.cell (zQ w _ hw317_7)).trans hw317_7), ((HB.out.cell (zQ w _ hw317_8)).trans hw317_8), ((HB.out.cell (zQ w _ hw317_9)).trans hw317_9), ((HB.out.cell (zQ w _ hw317_10)).trans hw317_10), ((HB.out.cell (zQ w _ hw318_0)).trans hw318_0), ((HB.out.cell (zQ w _ hw318_1)).trans hw318_1), ((HB.out.cell (zQ w _ hw318_2)).trans hw318_2), ((HB.out.cell (zQ w _ hw318_3)).trans hw318_3), ((HB.out.cell (zQ w _ hw318_4)).trans hw318_4), ((HB.out.cell (zQ w _ hw318_5)).trans hw318_5), ((HB.out.cell (zQ w _ hw318_6)).trans hw318_6), ((HB.out.cell (zQ w _ hw318_7)).trans hw318_7), ((HB.out.cell (zQ w _ hw318_8)).trans hw318_8), ((HB.out.cell (zQ w _ hw318_9)).trans hw318_9), ((HB.out.cell (zQ w _ hw318_10)).trans hw318_10)⟩ (fun hHeld => ?_); refine with_tabW spec_SameType.tab6 spec_SameType.bits6 (fun HT_ HW_ => ?_)
            generalize wr.drew = w47 at BK311 BK312 HB HR313_6 HR313_7 HR313_8 HR313_9 HR314_6 HR314_7 HR314_8 HR314_9 HR315_6 HR315_7 HR315_8 HR315_9 HR316_6 HR316_7 HR316_8 HR316_9 HR317_6 HR317_7 HR317_8 HR317_9 HR318_6 HR318_7 HR318_8 HR318_9 hx313_0 hx313_1 hx313_10 hx313_2 hx313_3 hx313_4 hx313_5 hx313_6 hx313_7 hx313_8 hx313_9 hx314_0 hx314_1 hx314_10 hx314_2 hx314_3 hx314_4 hx314_5 hx314_6 hx314_7 hx314_8 hx314_9 hx315_0 hx315_1 hx315_10 hx315_2 hx315_3 hx315_4 hx315_5 hx315_6 hx315_7 hx315_8 hx315_9 hx316_0 hx316_1 hx316_10 hx316_2 hx316_3 hx316_4 hx316_5 hx316_6 hx316_7 hx316_8 hx316_9 hx317_0 hx317_1 hx317_10 hx317_2 hx317_3 hx317_4 hx317_5 hx317_6 hx317_7 hx317_8 hx317_9 hx318_0 hx318_1 hx318_10 hx318_2 hx318_3 hx318_4 hx318_5 hx318_6 hx318_7 hx318_8 hx318_9 hHeld ⊢
            refine qA 0 65 (bz 44 1) HT_ ?_
            refine qA 2 67 (bz 44 5) HT_ ?_
            refine qA 6 71 (bz 44 69) HT_ ?_
            refine qA 8 73 (bz 44 325) HT_ ?_
            refine qC 1 66 (bz 44 327) HT_ HW_ hHeld ?_ (hy := by rintro w' ⟨s0, s1, s2, s3, s4, s5, s6, s7, s8, s9, s10, s11, s12, s13, s14, s15, s16, s17, s18, s19, s20, s21, s22, s23, s24, s25, s26, s27, s28, s29, s30, s31, s32, s33, s34, s35, s36, s37, s38, s39, s40, s41, s42, s43, s44, s45, s46, s47, s48, s49, s50, s51, s52, s53, s54, s55, s56, s57, s58, s59, s60, s61, s62, s63, s64, s65, s66, s67, s68, s69, s70, s71, s72, s73, s74, s75, s76, s77, s78, s79, s80, s81, s82, s83⟩; go_simp; with_reducible rfl)
            refine qA 3 68 (bz 44 335) HT_ ?_
            refine qA 4 69 (bz 44 351) HT_ ?_
            refine qC 5 70 (bz 44 383) HT_ HW_ hHeld ?_ (hy := by rintro w' ⟨s0, s1, s2, s3, s4, s5, s6, s7, s8, s9, s10, s11, s12, s13, s14, s15, s16, s17, s18, s19, s20, s21, s22, s23, s24, s25, s26, s27, s28, s29, s30, s31, s32, s33, s34, s35, s36, s37, s38, s39, s40, s41, s42, s43, s44, s45, s46, s47, s48, s49, s50, s51, s52, s53, s54, s55, s56, s57, s58, s59, s60, s61, s62, s63, s64, s65, s66, s67, s68, s69, s70, s71, s72, s73, s74, s75, s76, s77, s78, s79, s80, s81, s82, s83⟩; go_simp; with_reducible rfl)
            refine qC 7 72 (bz 44 511) HT_ HW_ hHeld ?_ (hy := by rintro w' ⟨s0, s1, s2, s3, s4, s5, s6, s7, s8, s9, s10, s11, s12, s13, s14, s15, s16, s17, s18, s19, s20, s21, s22, s23, s24, s25, s26, s27, s28, s29, s30, s31, s32, s33, s34, s35, s36, s37, s38, s39, s40, s41, s42, s43, s44, s45, s46, s47, s48, s49, s50, s51, s52, s53, s54, s55, s56, s57, s58, s59, s60, s61, s62, s63, s64, s65, s66, s67, s68, s69, s70, s71, s72, s73, s74, s75, s76, s77, s78, s79, s80, s81, s82, s83⟩; go_simp; with_reducible rfl)
            refine qA 9 74 (bz 44 1023) HT_ ?_
            refine qA 10 75 (bz 44 2047) HT_ ?_
            refine qC 11 76 (bz 44 4095) HT_ HW_ hHeld ?_ (hy := by rintro w' ⟨s0, s1, s2, s3, s4, s5, s6, s7, s8, s9, s10, s11, s12, s13, s14, s15, s16, s17, s18, s19, s20, s21, s22, s23, s24, s25, s26, s27, s28, s29, s30, s31, s32, s33, s34, s35, s36, s37, s38, s39, s40, s41, s42, s43, s44, s45, s46, s47, s48, s49, s50, s51, s52, s53, s54, s55, s56, s57, s58, s59, s60, s61, s62, s63, s64, s65, s66, s67, s68, s69, s70, s71, s72, s73, s74, s75, s76, s77, s78, s79, s80, s81, s82, s83⟩; go_simp; with_reducible rfl)
            refine qA 12 77 (bz 44 8191) HT_ ?_
            refine qA 13 78 (bz 44 16383) HT_ ?_
            refine qA 14 79 (bz 44 32767) HT_ ?_
            refine qA 16 81 (bz 44 98303) HT_ ?_
            refine qA 20 85 (bz 44 1146879) HT_ ?_
            refine qA 22 87 (bz 44 5341183) HT_ ?_
            refine qC 15 80 (bz 44 5373951) HT_ HW_ hHeld ?_ (hy := by rintro w' ⟨s0, s1, s2, s3, s4, s5, s6, s7, s8, s9, s10, s11, s12, s13, s14, s15, s16, s17, s18, s19, s20, s21, s22, s23, s24, s25, s26, s27, s28, s29, s30, s31, s32, s33, s34, s35, s36, s37, s38, s39, s40, s41, s42, s43, s44, s45, s46, s47, s48, s49, s50, s51, s52, s53, s54, s55, s56, s57, s58, s59, s60, s61, s62, s63, s64, s65, s66, s67, s68, s69, s70, s71, s72, s73, s74, s75, s76, s77, s78, s79, s80, s81, s82, s83⟩; go_simp; with_reducible rfl)
            refine qA 17 82 (bz 44 5505023) HT_ ?_
            refine qA 18 83 (bz 44 5767167) HT_ ?_
            refine qC 19 84 (bz 44 6291455) HT_ HW_ hHeld ?_ (hy := by rintro w' ⟨s0, s1, s2, s3, s4, s5, s6, s7, s8, s9, s10, s11, s12, s13, s14, s15, s16, s17, s18, s19, s20, s21, s22, s23, s24, s25, s26, s27, s28, s29, s30, s31, s32, s33, s34, s35, s36, s37, s38, s39, s40, s41, s42, s43, s44, s45, s46, s47, s48, s49, s50, s51, s52, s53, s54, s55, s56, s57, s58, s59, s60, s61, s62, s63, s64, s65, s66, s67, s68, s69, s70, s71, s72, s73, s74, s75, s76, s77, s78, s79, s80, s81, s82, s83⟩; go_simp; with_reducible rfl)
            refine qC 21 86 (bz 44 8388607) HT_ HW_ hHeld ?_ (hy := by rintro w' ⟨s0, s1, s2, s3, s4, s5, s6, s7, s8, s9, s10, s11, s12, s13, s14, s15, s16, s17, s18, s19, s20, s21, s22, s23, s24, s25, s26, s27, s28, s29, s30, s31, s32, s33, s34, s35, s36, s37, s38, s39, s40, s41, s42, s43, s44, s45, s46, s47, s48, s49, s50, s51, s52, s53, s54, s55, s56, s57, s58, s59, s60, s61, s62, s63, s64, s65, s66, s67, s68, s69, s70, s71, s72, s73, s74, s75, s76, s77, s78, s79, s80, s81, s82, s83⟩; go_simp; with_reducible rfl)
            refine qA 23 88 (bz 44 16777215) HT_ ?_
            refine qA 24 89 (bz 44 33554431) HT_ ?_
            refine qC 25 90 (bz 44 67108863) HT_ HW_ hHeld ?_ (hy := by rintro w' ⟨s0, s1, s2, s3, s4, s5, s6, s7, s8, s9, s10, s11, s12, s13, s14, s15, s16, s17, s18, s19, s20, s21, s22, s23, s24, s25, s26, s27, s28, s29, s30, s31, s32, s33, s34, s35, s36, s37, s38, s39, s40, s41, s42, s43, s44, s45, s46, s47, s48, s49, s50, s51, s52, s53, s54, s55, s56, s57, s58, s59, s60, s61, s62, s63, s64, s65, s66, s67, s68, s69, s70, s71, s72, s73, s74, s75, s76, s77, s78, s79, s80, s81, s82, s83⟩; go_simp; with_reducible rfl)
            refine qA 26 91 (bz 44 134217727) HT_ ?_
            refine qA 27 92 (bz 44 268435455) HT_ ?_
            refine qA 28 93 (bz 44 536870911) HT_ ?_
            refine qA 29 94 (bz 44 1073741823) HT_ ?_
            refine qA 31 96 (bz 44 3221225471) HT_ ?_
            refine qA 35 100 (bz 44 37580963839) HT_ ?_
            refine qA 37 102 (bz 44 175019917311) HT_ ?_
            refine qC 30 95 (bz 44 176093659135) HT_ HW_ hHeld ?_ (hy := by rintro w' ⟨s0, s1, s2, s3, s4, s5, s6, s7, s8, s9, s10, s11, s12, s13, s14, s15, s16, s17, s18, s19, s20, s21, s22, s23, s24, s25, s26, s27, s28, s29, s30, s31, s32, s33, s34, s35, s36, s37, s38, s39, s40, s41, s42, s43, s44, s45, s46, s47, s48, s49, s50, s51, s52, s53, s54, s55, s56, s57, s58, s59, s60, s61, s62, s63, s64, s65, s66, s67, s68, s69, s70, s71, s72, s73, s74, s75, s76, s77, s78, s79, s80, s81, s82, s83⟩; go_simp; with_reducible rfl)
            refine qA 32 97 (bz 44 180388626431) HT_ ?_
            refine qA 33 98 (bz 44 188978561023) HT_ ?_
            refine qC 34 99 (bz 44 206158430207) HT_ HW_ hHeld ?_ (hy := by rintro w' ⟨s0, s1, s2, s3, s4, s5, s6, s7, s8, s9, s10, s11, s12, s13, s14, s15, s16, s17, s18, s19, s20, s21, s22, s23, s24, s25, s26, s27, s28, s29, s30, s31, s32, s33, s34, s35, s36, s37, s38, s39, s40, s41, s42, s43, s44, s45, s46, s47, s48, s49, s50, s51, s52, s53, s54, s55, s56, s57, s58, s59, s60, s61, s62, s63, s64, s65, s66, s67, s68, s69, s70, s71, s72, s73, s74, s75, s76, s77, s78, s79, s80, s81, s82, s83⟩; go_simp; with_reducible rfl)
            refine qC 36 101 (bz 44 274877906943) HT_ HW_ hHeld ?_ (hy := by rintro w' ⟨s0, s1, s2, s3, s4, s5, s6, s7, s8, s9, s10, s11, s12, s13, s14, s15, s16, s17, s18, s19, s20, s21, s22, s23, s24, s25, s26, s27, s28, s29, s30, s31, s32, s33, s34, s35, s36, s37, s38, s39, s40, s41, s42, s43, s44, s45, s46, s47, s48, s49, s50, s51, s52, s53, s54, s55, s56, s57, s58, s59, s60, s61, s62, s63, s64, s65, s66, s67, s68, s69, s70, s71, s72, s73, s74, s75, s76, s77, s78, s79, s80, s81, s82, s83⟩; go_simp; with_reducible rfl)
            refine qA 38 103 (bz 44 549755813887) HT_ ?_
            refine qA 39 104 (bz 44 1099511627775) HT_ ?_
            refine qC 40 105 (bz 44 2199023255551) HT_ HW_ hHeld ?_ (hy := by rintro w' ⟨s0, s1, s2, s3, s4, s5, s6, s7, s8, s9, s10, s11, s12, s13, s14, s15, s16, s17, s18, s19, s20, s21, s22, s23, s24, s25, s26, s27, s28, s29, s30, s31, s32, s33, s34, s35, s36, s37, s38, s39, s40, s41, s42, s43, s44, s45, s46, s47, s48, s49, s50, s51, s52, s53, s54, s55, s56, s57, s58, s59, s60, s61, s62, s63, s64, s65, s66, s67, s68, s69, s70, s71, s72, s73, s74, s75, s76, s77, s78, s79, s80, s81, s82, s83⟩; go_simp; with_reducible rfl)
            refine one_ (i := 41) (N := some 106) (bz 44 4398046511103) rfl rfl (one_of HT_.out (by kernel_rfl)) (by decide) (fun K hK => ?_)
            refine goes_ Try.func8 (by kernel_rfl) rfl #[.agg #[.int .i64 ((rd_T64 l0_6 x5_2).f2.f0), .int .i64 ((rd_T64 l0_6 x5_2).f2.f1), .bool ((rd_T64 l0_6 x5_2).f2.f2), .bool ((rd_T64 l0_6 x5_2).f2.f3), .slice A313_6 ((rd_T64 l0_6 x5_2).f2.f4).length c313_6, .slice A313_7 ((rd_T64 l0_6 x5_2).f2.f5).length c313_7, .slice A313_8 ((rd_T64 l0_6 x5_2).f2.f6).length c313_8, .slice A313_9 ((rd_T64 l0_6 x5_2).f2.f7).length c313_9, .int .i64 ((rd_T64 l0_6 x5_2).f2.f8)], .agg #[.int .i64 ((rd_T64 l1_6 x5_2).f2.f0), .int .i64 ((rd_T64 l1_6 x5_2).f2.f1), .bool ((rd_T64 l1_6 x5_2).f2.f2), .bool ((rd_T64 l1_6 x5_2).f2.f3), .slice A314_6 ((rd_T64 l1_6 x5_2).f2.f4).length c314_6, .slice A314_7 ((rd_T64 l1_6 x5_2).f2.f5).length c314_7, .slice A314_8 ((rd_T64 l1_6 x5_2).f2.f6).length c314_8, .slice A314_9 ((rd_T64 l1_6 x5_2).f2.f7).length c314_9, .int .i64 ((rd_T64 l1_6 x5_2).f2.f8)]] (by rfl) rfl rfl (by (try simp only [zK, zL, zM]); first | done | rfl | (simp only [zN, zO]; rfl)) ?_
            with_reducible refine (ih k2 (by have := HJ2.out; have := HK2.out; omega) ((rd_T64 l0_6 x5_2).f2.f0) ((rd_T64 l0_6 x5_2).f2.f1) ((rd_T64 l0_6 x5_2).f2.f2) ((rd_T64 l0_6 x5_2).f2.f3) _ _ ((rd_T64 l0_6 x5_2).f2.f4) _ _ ((rd_T64 l0_6 x5_2).f2.f5) _ _ ((rd_T64 l0_6 x5_2).f2.f6) _ _ ((rd_T64 l0_6 x5_2).f2.f7) ((rd_T64 l0_6 x5_2).f2.f8) ((rd_T64 l1_6 x5_2).f2.f0) ((rd_T64 l1_6 x5_2).f2.f1) ((rd_T64 l1_6 x5_2).f2.f2) ((rd_T64 l1_6 x5_2).f2.f3) _ _ ((rd_T64 l1_6 x5_2).f2.f4) _ _ ((rd_T64 l1_6 x5_2).f2.f5) _ _ ((rd_T64 l1_6 x5_2).f2.f6) _ _ ((rd_T64 l1_6 x5_2).f2.f7) ((rd_T64 l1_6 x5_2).f2.f8) false _ ?side1 ?side2 ?side3 ?side4 ?side5 ?side6 ?side7 ?side8 ?side9 ?side10 ?side11 ?side12 ?side13 ?side14 ?side15 ?side16 A39.out).mono ?_
            (case side1 => exact kV (yY HR317_6.out HB.out))
            (case side2 => exact HC317_6.out)
            (case side3 => exact kV (yY HR317_7.out HB.out))
            (case side4 => exact HC317_7.out)
            (case side5 => exact kV (yY HR317_8.out HB.out))
            (case side6 => exact HC317_8.out)
            (case side7 => exact kV (yY HR317_9.out HB.out))
            (case side8 => exact HC317_9.out)
            (case side9 => exact kV (yY HR318_6.out HB.out))
            (case side10 => exact HC318_6.out)
            (case side11 => exact kV (yY HR318_7.out HB.out))
            (case side12 => exact HC318_7.out)
            (case side13 => exact kV (yY HR318_8.out HB.out))
            (case side14 => exact HC318_8.out)
            (case side15 => exact kV (yY HR318_9.out HB.out))
            (case side16 => exact HC318_9.out)
            rintro e w48 ⟨rfl, hb⟩
            refine ⟨_, rfl, ?_⟩
            have n0_ := yD (zB (kN BK311) hb)
            have n1_ := yD (zB (kN BK312) hb)
            have n2_ := yD (zC (kB HB) hb)
            clear BK311 BK312 HB; have BK311 := n0_; have BK312 := n1_; have HB := n2_; clear n0_ n1_ n2_; (try clear hb); (try clear hb2); (try clear hk); (try clear hi)
            refine hK.out _ _ ⟨(yG BK311.out 0).trans rfl, (yG BK311.out 1).trans rfl, (yG BK311.out 2).trans rfl, (yG BK311.out 3).trans rfl, (yG BK311.out 4).trans rfl, (yG BK311.out 5).trans rfl, (yG BK311.out 6).trans rfl, (yG BK311.out 7).trans rfl, (yG BK311.out 8).trans rfl, (yG BK312.out 0).trans rfl, (yG BK312.out 1).trans rfl, (yG BK312.out 2).trans rfl, (yG BK312.out 3).trans rfl, (yG BK312.out 4).trans rfl, (yG BK312.out 5).trans rfl, (yG BK312.out 6).trans rfl, (yG BK312.out 7).trans rfl, (yG BK312.out 8).trans rfl, ((HB.out.cell (zQ w _ hw313_0)).trans hw313_0), ((HB.out.cell (zQ w _ hw313_1)).trans hw313_1), ((HB.out.cell (zQ w _ hw313_2)).trans hw313_2), ((HB.out.cell (zQ w _ hw313_3)).trans hw313_3), ((HB.out.cell (zQ w _ hw313_4)).trans hw313_4), ((HB.out.cell (zQ w _ hw313_5)).trans hw313_5), ((HB.out.cell (zQ w _ hw313_6)).trans hw313_6), ((HB.out.cell (zQ w _ hw313_7)).trans hw313_7), ((HB.out.cell (zQ w _ hw313_8)).trans hw313_8), ((HB.out.cell (zQ w _ hw313_9)).trans hw313_9), ((HB.out.cell (zQ w _ hw313_10)).trans hw313_10), ((HB.out.cell (zQ w _ hw314_0)).trans hw314_0), ((HB.out.cell (zQ w _ hw314_1)).trans hw314_1), ((HB.out.cell (zQ w _ hw314_2)).trans hw314_2), ((HB.out.cell (zQ w _ hw314_3)).trans hw314_3), ((HB.out.cell (zQ w _ hw314_4)).trans hw314_4), ((HB.out.cell (zQ w _ hw314_5)).trans hw314_5), ((HB.out.cell (zQ w _ hw314_6)).trans hw314_6), ((HB.out.cell (zQ w _ hw314_7)).trans hw314_7), ((HB.out.cell (zQ w _ hw314_8)).trans hw314_8), ((HB.out.cell (zQ w _ hw314_9)).trans hw314_9), ((HB.out.cell (zQ w _ hw314_10)).trans hw314_10), ((HB.out.cell (zQ w _ hw315_0)).trans hw315_0), ((HB.out.cell (zQ w _ hw315_1)).trans hw315_1), ((HB.out.cell (zQ w _ hw315_2)).trans hw315_2), ((HB.out.cell (zQ w _ hw315_3)).trans hw315_3), ((HB.out.cell (zQ w _ hw315_4)).trans hw315_4), ((HB.out.cell (zQ w _ hw315_5)).trans hw315_5), ((HB.out.cell (zQ w _ hw315_6)).trans hw315_6), ((HB.out.cell (zQ w _ hw315_7)).trans hw315_7), ((HB.out.cell (zQ w _ hw315_8)).trans hw315_8), ((HB.out.cell (zQ w _ hw315_9)).trans hw315_9), ((HB.out.cell (zQ w _ hw315_10)).trans hw315_10), ((HB.out.cell (zQ w _ hw316_0)).trans hw316_0), ((HB.out.cell (zQ w _ hw316_1)).trans hw316_1), ((HB.out.cell (zQ w _ hw316_2)).trans hw316_2), ((HB.out.cell (zQ w _ hw316_3)).trans hw316_3), ((HB.out.cell (zQ w _ hw316_4)).trans hw316_4), ((HB.out.cell (zQ w _ hw316_5)).trans hw316_5), ((HB.out.cell (zQ w _ hw316_6)).trans hw316_6), ((HB.out.cell (zQ w _ hw316_7)).trans hw316_7), ((HB.out.cell (zQ w _ hw316_8)).trans hw316_8), ((HB.out.cell (zQ w _ hw316_9)).trans hw316_9), ((HB.out.cell (zQ w _ hw316_10)).trans hw316_10), ((HB.out.cell (zQ w _ hw317_0)).trans hw317_0), ((HB.out.cell (zQ w _ hw317_1)).trans hw317_1), ((HB.out.cell (zQ w _ hw317_2)).trans hw317_2), ((HB.out.cell (zQ w _ hw317_3)).trans hw317_3), ((HB.out.cell (zQ w _ hw317_4)).trans hw317_4), ((HB.out.cell (zQ w _ hw317_5)).trans hw317_5), ((HB.out.cell (zQ w _ hw317_6)).trans hw317_6), ((HB.out.cell (zQ w _ hw317_7)).trans hw317_7), ((HB.out.cell (zQ w _ hw317_8)).trans hw317_8), ((HB.out.cell (zQ w _ hw317_9)).trans hw317_9), ((HB.out.cell (zQ w _ hw317_10)).trans hw317_10), ((HB.out.cell (zQ w _ hw318_0)).trans hw318_0), ((HB.out.cell (zQ w _ hw318_1)).trans hw318_1), ((HB.out.cell (zQ w _ hw318_2)).trans hw318_2), ((HB.out.cell (zQ w _ hw318_3)).trans hw318_3), ((HB.out.cell (zQ w _ hw318_4)).trans hw318_4), ((HB.out.cell (zQ w _ hw318_5)).trans hw318_5), ((HB.out.cell (zQ w _ hw318_6)).trans hw318_6), ((HB.out.cell (zQ w _ hw318_7)).trans hw318_7), ((HB.out.cell (zQ w _ hw318_8)).trans hw318_8), ((HB.out.cell (zQ w _ hw318_9)).trans hw318_9), ((HB.out.cell (zQ w _ hw318_10)).trans hw318_10)⟩ (fun hHeld => ?_)
            clear hK K
            refine norm_ (a' := ?_) ?_ ?_
            rotate_left
            · show Act.put _ (some 106) _ = _
              simp only [Act.put, zH, zI, zJ, i64_w, i32_w]
              rfl
            refine qA 42 107 (bz 44 8796093022207) HT_ ?_
            refine qA 43 108 (bz 44 17592186044415) HT_ ?_
            refine done_ (done_of HT_.out (by kernel_rfl)) ?_
            try go_wp2
            go_ret
            exact ⟨by first | rfl | (simp <;> rfl) | (simp [*] <;> rfl), kR0 HB⟩
          ·
           rw [if_neg c38] at H
           have c38b0 : (((rd_T64 l0_6 x5_2).f1) == ((rd_T64 l1_6 x5_2).f1)) = false := beq_eq_false_iff_ne.mpr c38
           have c38b1 : (((rd_T64 l0_6 x5_2).f1) != ((rd_T64 l1_6 x5_2).f1)) = true := bne_iff_ne.mpr c38
           obtain rfl := Option.some.inj H; have hnb49 := NB311_312.out; have hnc49 := NB312_311.out
           obtain ⟨hcz50_0, hcz50_1, hcz50_2, hcz50_3, hcz50_4, hcz50_5, hcz50_6, hcz50_7, hcz50_8⟩ := cz9 BK311.out
           obtain ⟨hfz50_0, hfz50_1, hfz50_2, hfz50_3, hfz50_4, hfz50_5, hfz50_6, hfz50_7, hfz50_8⟩ := fz9 BK311.out
           try go_wp2
           have n0_ := yD (yO BK311.out)
           have n1_ := yD (yO BK312.out)
           have n2_ := yD (yP HB.out)
           clear BK311 BK312 HB; have BK311 := n0_; have BK312 := n1_; have HB := n2_; clear n0_ n1_ n2_
           have p313 : 0 ≤ (x5_2 : Int) := zP (by assumption)
           have q313 : x5_2 < (l0_6.length : Int) := zP (by assumption)
           obtain ⟨ad313, A313_6, c313_6, A313_7, c313_7, A313_8, c313_8, A313_9, c313_9, e313, hx313_0, hx313_1, hx313_2, hx313_3, hx313_4, hx313_5, hx313_6, hx313_7, hx313_8, hx313_9, hx313_10, hl313_6, hi313_6, hl313_7, hi313_7, hl313_8, hi313_8, hl313_9, hi313_9⟩ := at_T64 HR0_6.out x5_2 p313 q313
           have hw313_10 := hx313_10; have hw313_9 := hx313_9; have hw313_8 := hx313_8; have hw313_7 := hx313_7; have hw313_6 := hx313_6; have hw313_5 := hx313_5; have hw313_4 := hx313_4; have hw313_3 := hx313_3; have hw313_2 := hx313_2; have hw313_1 := hx313_1; have hw313_0 := hx313_0; cases e313
           replace hx313_0 := (HB.out.cell (zQ w _ hx313_0)).trans hx313_0
           replace hx313_1 := (HB.out.cell (zQ w _ hx313_1)).trans hx313_1
           replace hx313_2 := (HB.out.cell (zQ w _ hx313_2)).trans hx313_2
           replace hx313_3 := (HB.out.cell (zQ w _ hx313_3)).trans hx313_3
           replace hx313_4 := (HB.out.cell (zQ w _ hx313_4)).trans hx313_4
           replace hx313_5 := (HB.out.cell (zQ w _ hx313_5)).trans hx313_5
           replace hx313_6 := (HB.out.cell (zQ w _ hx313_6)).trans hx313_6
           replace hx313_7 := (HB.out.cell (zQ w _ hx313_7)).trans hx313_7
           replace hx313_8 := (HB.out.cell (zQ w _ hx313_8)).trans hx313_8
           replace hx313_9 := (HB.out.cell (zQ w _ hx313_9)).trans hx313_9
           replace hx313_10 := (HB.out.cell (zQ w _ hx313_10)).trans hx313_10
           have HR313_6 := yD hi313_6
           have HC313_6 := yD hl313_6
           clear hi313_6 hl313_6
           have HR313_7 := yD hi313_7
           have HC313_7 := yD hl313_7
           clear hi313_7 hl313_7
           have HR313_8 := yD hi313_8
           have HC313_8 := yD hl313_8
           clear hi313_8 hl313_8
           have HR313_9 := yD hi313_9
           have HC313_9 := yD hl313_9
           clear hi313_9 hl313_9; replace p313 := eq_true p313; replace q313 := eq_true q313
           have p314 : 0 ≤ (x5_2 : Int) := zP (by assumption)
           have q314 : x5_2 < (l1_6.length : Int) := zP (by assumption)
           obtain ⟨ad314, A314_6, c314_6, A314_7, c314_7, A314_8, c314_8, A314_9, c314_9, e314, hx314_0, hx314_1, hx314_2, hx314_3, hx314_4, hx314_5, hx314_6, hx314_7, hx314_8, hx314_9, hx314_10, hl314_6, hi314_6, hl314_7, hi314_7, hl314_8, hi314_8, hl314_9, hi314_9⟩ := at_T64 HR1_6.out x5_2 p314 q314
           have hw314_10 := hx314_10; have hw314_9 := hx314_9; have hw314_8 := hx314_8; have hw314_7 := hx314_7; have hw314_6 := hx314_6; have hw314_5 := hx314_5; have hw314_4 := hx314_4; have hw314_3 := hx314_3; have hw314_2 := hx314_2; have hw314_1 := hx314_1; have hw314_0 := hx314_0; cases e314
           replace hx314_0 := (HB.out.cell (zQ w _ hx314_0)).trans hx314_0
           replace hx314_1 := (HB.out.cell (zQ w _ hx314_1)).trans hx314_1
           replace hx314_2 := (HB.out.cell (zQ w _ hx314_2)).trans hx314_2
           replace hx314_3 := (HB.out.cell (zQ w _ hx314_3)).trans hx314_3
           replace hx314_4 := (HB.out.cell (zQ w _ hx314_4)).trans hx314_4
           replace hx314_5 := (HB.out.cell (zQ w _ hx314_5)).trans hx314_5
           replace hx314_6 := (HB.out.cell (zQ w _ hx314_6)).trans hx314_6
           replace hx314_7 := (HB.out.cell (zQ w _ hx314_7)).trans hx314_7
           replace hx314_8 := (HB.out.cell (zQ w _ hx314_8)).trans hx314_8
           replace hx314_9 := (HB.out.cell (zQ w _ hx314_9)).trans hx314_9
           replace hx314_10 := (HB.out.cell (zQ w _ hx314_10)).trans hx314_10
           have HR314_6 := yD hi314_6
           have HC314_6 := yD hl314_6
           clear hi314_6 hl314_6
           have HR314_7 := yD hi314_7
           have HC314_7 := yD hl314_7
           clear hi314_7 hl314_7
           have HR314_8 := yD hi314_8
           have HC314_8 := yD hl314_8
           clear hi314_8 hl314_8
           have HR314_9 := yD hi314_9
           have HC314_9 := yD hl314_9
           clear hi314_9 hl314_9; replace p314 := eq_true p314; replace q314 := eq_true q314
           have p315 : 0 ≤ (x5_2 : Int) := zP (by assumption)
           have q315 : x5_2 < (l0_6.length : Int) := zP (by assumption)
           obtain ⟨ad315, A315_6, c315_6, A315_7, c315_7, A315_8, c315_8, A315_9, c315_9, e315, hx315_0, hx315_1, hx315_2, hx315_3, hx315_4, hx315_5, hx315_6, hx315_7, hx315_8, hx315_9, hx315_10, hl315_6, hi315_6, hl315_7, hi315_7, hl315_8, hi315_8, hl315_9, hi315_9⟩ := at_T64 HR0_6.out x5_2 p315 q315
           have hw315_10 := hx315_10; have hw315_9 := hx315_9; have hw315_8 := hx315_8; have hw315_7 := hx315_7; have hw315_6 := hx315_6; have hw315_5 := hx315_5; have hw315_4 := hx315_4; have hw315_3 := hx315_3; have hw315_2 := hx315_2; have hw315_1 := hx315_1; have hw315_0 := hx315_0
           obtain rfl : ad313 = ad315 := (by injection e315)
           replace hx315_0 := (HB.out.cell (zQ w _ hx315_0)).trans hx315_0
           replace hx315_1 := (HB.out.cell (zQ w _ hx315_1)).trans hx315_1
           replace hx315_2 := (HB.out.cell (zQ w _ hx315_2)).trans hx315_2
           replace hx315_3 := (HB.out.cell (zQ w _ hx315_3)).trans hx315_3
           replace hx315_4 := (HB.out.cell (zQ w _ hx315_4)).trans hx315_4
           replace hx315_5 := (HB.out.cell (zQ w _ hx315_5)).trans hx315_5
           replace hx315_6 := (HB.out.cell (zQ w _ hx315_6)).trans hx315_6
           replace hx315_7 := (HB.out.cell (zQ w _ hx315_7)).trans hx315_7
           replace hx315_8 := (HB.out.cell (zQ w _ hx315_8)).trans hx315_8
           replace hx315_9 := (HB.out.cell (zQ w _ hx315_9)).trans hx315_9
           replace hx315_10 := (HB.out.cell (zQ w _ hx315_10)).trans hx315_10
           have HR315_6 := yD hi315_6
           have HC315_6 := yD hl315_6
           clear hi315_6 hl315_6
           have HR315_7 := yD hi315_7
           have HC315_7 := yD hl315_7
           clear hi315_7 hl315_7
           have HR315_8 := yD hi315_8
           have HC315_8 := yD hl315_8
           clear hi315_8 hl315_8
           have HR315_9 := yD hi315_9
           have HC315_9 := yD hl315_9
           clear hi315_9 hl315_9; replace p315 := eq_true p315; replace q315 := eq_true q315
           have ea_ := Option.some.inj (hx313_6.symm.trans hx315_6)
           injection ea_ with ea_ en_ ec_
           subst ea_; subst ec_; clear en_
           have ea_ := Option.some.inj (hx313_7.symm.trans hx315_7)
           injection ea_ with ea_ en_ ec_
           subst ea_; subst ec_; clear en_
           have ea_ := Option.some.inj (hx313_8.symm.trans hx315_8)
           injection ea_ with ea_ en_ ec_
           subst ea_; subst ec_; clear en_
           have ea_ := Option.some.inj (hx313_9.symm.trans hx315_9)
           injection ea_ with ea_ en_ ec_
           subst ea_; subst ec_; clear en_
           have p316 : 0 ≤ (x5_2 : Int) := zP (by assumption)
           have q316 : x5_2 < (l1_6.length : Int) := zP (by assumption)
           obtain ⟨ad316, A316_6, c316_6, A316_7, c316_7, A316_8, c316_8, A316_9, c316_9, e316, hx316_0, hx316_1, hx316_2, hx316_3, hx316_4, hx316_5, hx316_6, hx316_7, hx316_8, hx316_9, hx316_10, hl316_6, hi316_6, hl316_7, hi316_7, hl316_8, hi316_8, hl316_9, hi316_9⟩ := at_T64 HR1_6.out x5_2 p316 q316
           have hw316_10 := hx316_10; have hw316_9 := hx316_9; have hw316_8 := hx316_8; have hw316_7 := hx316_7; have hw316_6 := hx316_6; have hw316_5 := hx316_5; have hw316_4 := hx316_4; have hw316_3 := hx316_3; have hw316_2 := hx316_2; have hw316_1 := hx316_1; have hw316_0 := hx316_0
           obtain rfl : ad314 = ad316 := (by injection e316)
           replace hx316_0 := (HB.out.cell (zQ w _ hx316_0)).trans hx316_0
           replace hx316_1 := (HB.out.cell (zQ w _ hx316_1)).trans hx316_1
           replace hx316_2 := (HB.out.cell (zQ w _ hx316_2)).trans hx316_2
           replace hx316_3 := (HB.out.cell (zQ w _ hx316_3)).trans hx316_3
           replace hx316_4 := (HB.out.cell (zQ w _ hx316_4)).trans hx316_4
           replace hx316_5 := (HB.out.cell (zQ w _ hx316_5)).trans hx316_5
           replace hx316_6 := (HB.out.cell (zQ w _ hx316_6)).trans hx316_6
           replace hx316_7 := (HB.out.cell (zQ w _ hx316_7)).trans hx316_7
           replace hx316_8 := (HB.out.cell (zQ w _ hx316_8)).trans hx316_8
           replace hx316_9 := (HB.out.cell (zQ w _ hx316_9)).trans hx316_9
           replace hx316_10 := (HB.out.cell (zQ w _ hx316_10)).trans hx316_10
           have HR316_6 := yD hi316_6
           have HC316_6 := yD hl316_6
           clear hi316_6 hl316_6
           have HR316_7 := yD hi316_7
           have HC316_7 := yD hl316_7
           clear hi316_7 hl316_7
           have HR316_8 := yD hi316_8
           have HC316_8 := yD hl316_8
           clear hi316_8 hl316_8
           have HR316_9 := yD hi316_9
           have HC316_9 := yD hl316_9
           clear hi316_9 hl316_9; replace p316 := eq_true p316; replace q316 := eq_true q316
           have ea_ := Option.some.inj (hx314_6.symm.trans hx316_6)
           injection ea_ with ea_ en_ ec_
           subst ea_; subst ec_; clear en_
           have ea_ := Option.some.inj (hx314_7.symm.trans hx316_7)
           injection ea_ with ea_ en_ ec_
           subst ea_; subst ec_; clear en_
           have ea_ := Option.some.inj (hx314_8.symm.trans hx316_8)
           injection ea_ with ea_ en_ ec_
           subst ea_; subst ec_; clear en_
           have ea_ := Option.some.inj (hx314_9.symm.trans hx316_9)
           injection ea_ with ea_ en_ ec_
           subst ea_; subst ec_; clear en_
           refine start_ (n := 44) (S := fun w' => w'.cell? ⟨gb311, 0, none⟩ = some (.int .i64 a0_0) ∧ w'.cell? ⟨gb311, 1, none⟩ = some (.int .i64 a0_1) ∧ w'.cell? ⟨gb311, 2, none⟩ = some (.bool a0_2) ∧ w'.cell? ⟨gb311, 3, none⟩ = some (.bool a0_3) ∧ w'.cell? ⟨gb311, 4, none⟩ = some (.slice A0_4 l0_4.length c0_4) ∧ w'.cell? ⟨gb311, 5, none⟩ = some (.slice A0_5 l0_5.length c0_5) ∧ w'.cell? ⟨gb311, 6, none⟩ = some (.slice (some ad313) l0_6.length c0_6) ∧ w'.cell? ⟨gb311, 7, none⟩ = some (.slice A0_7 l0_7.length c0_7) ∧ w'.cell? ⟨gb311, 8, none⟩ = some (.int .i64 a0_8) ∧ w'.cell? ⟨gb312, 0, none⟩ = some (.int .i64 a1_0) ∧ w'.cell? ⟨gb312, 1, none⟩ = some (.int .i64 a1_1) ∧ w'.cell? ⟨gb312, 2, none⟩ = some (.bool a1_2) ∧ w'.cell? ⟨gb312, 3, none⟩ = some (.bool a1_3) ∧ w'.cell? ⟨gb312, 4, none⟩ = some (.slice A1_4 l1_4.length c1_4) ∧ w'.cell? ⟨gb312, 5, none⟩ = some (.slice A1_5 l1_5.length c1_5) ∧ w'.cell? ⟨gb312, 6, none⟩ = some (.slice (some ad314) l1_6.length c1_6) ∧ w'.cell? ⟨gb312, 7, none⟩ = some (.slice A1_7 l1_7.length c1_7) ∧ w'.cell? ⟨gb312, 8, none⟩ = some (.int .i64 a1_8) ∧ w'.cell? (ad313.add ((x5_2).toNat * 11)) = some (.string ((rd_T64 l0_6 x5_2).f0)) ∧ w'.cell? ⟨(ad313.add ((x5_2).toNat * 11)).block, (ad313.add ((x5_2).toNat * 11)).off + 1, none⟩ = some (.int .i64 ((rd_T64 l0_6 x5_2).f1)) ∧ w'.cell? ⟨(ad313.add ((x5_2).toNat * 11)).block, (ad313.add ((x5_2).toNat * 11)).off + 2, none⟩ = some (.int .i64 ((rd_T64 l0_6 x5_2).f2.f0)) ∧ w'.cell? ⟨(ad313.add ((x5_2).toNat * 11)).block, (ad313.add ((x5_2).toNat * 11)).off + 3, none⟩ = some (.int .i64 ((rd_T64 l0_6 x5_2).f2.f1)) ∧ w'.cell? ⟨(ad313.add ((x5_2).toNat * 11)).block, (ad313.add ((x5_2).toNat * 11)).off + 4, none⟩ = some (.bool ((rd_T64 l0_6 x5_2).f2.f2)) ∧ w'.cell? ⟨(ad313.add ((x5_2).toNat * 11)).block, (ad313.add ((x5_2).toNat * 11)).off + 5, none⟩ = some (.bool ((rd_T64 l0_6 x5_2).f2.f3)) ∧ w'.cell? ⟨(ad313.add ((x5_2).toNat * 11)).block, (ad313.add ((x5_2).toNat * 11)).off + 6, none⟩ = some (.slice A313_6 ((rd_T64 l0_6 x5_2).f2.f4).length c313_6) ∧ w'.cell? ⟨(ad313.add ((x5_2).toNat * 11)).block, (ad313.add ((x5_2).toNat * 11)).off + 7, none⟩ = some (.slice A313_7 ((rd_T64 l0_6 x5_2).f2.f5).length c313_7) ∧ w'.cell? ⟨(ad313.add ((x5_2).toNat * 11)).block, (ad313.add ((x5_2).toNat * 11)).off + 8, none⟩ = some (.slice A313_8 ((rd_T64 l0_6 x5_2).f2.f6).length c313_8) ∧ w'.cell? ⟨(ad313.add ((x5_2).toNat * 11)).block, (ad313.add ((x5_2).toNat * 11)).off + 9, none⟩ = some (.slice A313_9 ((rd_T64 l0_6 x5_2).f2.f7).length c313_9) ∧ w'.cell? ⟨(ad313.add ((x5_2).toNat * 11)).block, (ad313.add ((x5_2).toNat * 11)).off + 10, none⟩ = some (.int .i64 ((rd_T64 l0_6 x5_2).f2.f8)) ∧ w'.cell? (ad314.add ((x5_2).toNat * 11)) = some (.string ((rd_T64 l1_6 x5_2).f0)) ∧ w'.cell? ⟨(ad314.add ((x5_2).toNat * 11)).block, (ad314.add ((x5_2).toNat * 11)).off + 1, none⟩ = some (.int .i64 ((rd_T64 l1_6 x5_2).f1)) ∧ w'.cell? ⟨(ad314.add ((x5_2).toNat * 11)).block, (ad314.add ((x5_2).toNat * 11)).off + 2, none⟩ = some (.int .i64 ((rd_T64 l1_6 x5_2).f2.f0)) ∧ w'.cell? ⟨(ad314.add ((x5_2).toNat * 11)).block, (ad314.add ((x5_2).toNat * 11)).off + 3, none⟩ = some (.int .i64 ((rd_T64 l1_6 x5_2).f2.f1)) ∧ w'.cell? ⟨(ad314.add ((x5_2).toNat * 11)).block, (ad314.add ((x5_2).toNat * 11)).off + 4, none⟩ = some (.bool ((rd_T64 l1_6 x5_2).f2.f2)) ∧ w'.cell? ⟨(ad314.add ((x5_2).toNat * 11)).block, (ad314.add ((x5_2).toNat * 11)).off + 5, none⟩ = some (.bool ((rd_T64 l1_6 x5_2).f2.f3)) ∧ w'.cell? ⟨(ad314.add ((x5_2).toNat * 11)).block, (ad314.add ((x5_2).toNat * 11)).off + 6, none⟩ = some (.slice A314_6 ((rd_T64 l1_6 x5_2).f2.f4).length c314_6) ∧ w'.cell? ⟨(ad314.add ((x5_2).toNat * 11)).block, (ad314.add ((x5_2).toNat * 11)).off + 7, none⟩ = some (.slice A314_7 ((rd_T64 l1_6 x5_2).f2.f5).length c314_7) ∧ w'.cell? ⟨(ad314.add ((x5_2).toNat * 11)).block, (ad314.add ((x5_2).toNat * 11)).off + 8, none⟩ = some (.slice A314_8 ((rd_T64 l1_6 x5_2).f2.f6).length c314_8) ∧ w'.cell? ⟨(ad314.add ((x5_2).toNat * 11)).block, (ad314.add ((x5_2).toNat * 11)).off + 9, none⟩ = some (.slice A314_9 ((rd_T64 l1_6 x5_2).f2.f7).length c314_9) ∧ w'.cell? ⟨(ad314.add ((x5_2).toNat * 11)).block, (ad314.add ((x5_2).toNat * 11)).off + 10, none⟩ = some (.int .i64 ((rd_T64 l1_6 x5_2).f2.f8)) ∧ w'.cell? (ad313.add ((x5_2).toNat * 11)) = some (.string ((rd_T64 l0_6 x5_2).f0)) ∧ w'.cell? ⟨(ad313.add ((x5_2).toNat * 11)).block, (ad313.add ((x5_2).toNat * 11)).off + 1, none⟩ = some (.int .i64 ((rd_T64 l0_6 x5_2).f1)) ∧ w'.cell? ⟨(ad313.add ((x5_2).toNat * 11)).block, (ad313.add ((x5_2).toNat * 11)).off + 2, none⟩ = some (.int .i64 ((rd_T64 l0_6 x5_2).f2.f0)) ∧ w'.cell? ⟨(ad313.add ((x5_2).toNat * 11)).block, (ad313.add ((x5_2).toNat * 11)).off + 3, none⟩ = some (.int .i64 ((rd_T64 l0_6 x5_2).f2.f1)) ∧ w'.cell? ⟨(ad313.add ((x5_2).toNat * 11)).block, (ad313.add ((x5_2).toNat * 11)).off + 4, none⟩ = some (.bool ((rd_T64 l0_6 x5_2).f2.f2)) ∧ w'.cell? ⟨(ad313.add ((x5_2).toNat * 11)).block, (ad313.add ((x5_2).toNat * 11)).off + 5, none⟩ = some (.bool ((rd_T64 l0_6 x5_2).f2.f3)) ∧ w'.cell? ⟨(ad313.add ((x5_2).toNat * 11)).block, (ad313.add ((x5_2).toNat * 11)).off + 6, none⟩ = some (.slice A313_6 ((rd_T64 l0_6 x5_2).f2.f4).length c313_6) ∧ w'.cell? ⟨(ad313.add ((x5_2).toNat * 11)).block, (ad313.add ((x5_2).toNat * 11)).off + 7, none⟩ = some (.slice A313_7 ((rd_T64 l0_6 x5_2).f2.f5).length c313_7) ∧ w'.cell? ⟨(ad313.add ((x5_2).toNat * 11)).block, (ad313.add ((x5_2).toNat * 11)).off + 8, none⟩ = some (.slice A313_8 ((rd_T64 l0_6 x5_2).f2.f6).length c313_8) ∧ w'.cell? ⟨(ad313.add ((x5_2).toNat * 11)).block, (ad313.add ((x5_2).toNat * 11)).off + 9, none⟩ = some (.slice A313_9 ((rd_T64 l0_6 x5_2).f2.f7).length c313_9) ∧ w'.cell? ⟨(ad313.add ((x5_2).toNat * 11)).block, (ad313.add ((x5_2).toNat * 11)).off + 10, none⟩ = some (.int .i64 ((rd_T64 l0_6 x5_2).f2.f8)) ∧ w'.cell? (ad314.add ((x5_2).toNat * 11)) = some (.string ((rd_T64 l1_6 x5_2).f0)) ∧ w'.cell? ⟨(ad314.add ((x5_2).toNat * 11)).block, (ad314.add ((x5_2).toNat * 11)).off + 1, none⟩ = some (.int .i64 ((rd_T64 l1_6 x5_2).f1)) ∧ w'.cell? ⟨(ad314.add ((x5_2).toNat * 11)).block, (ad314.add ((x5_2).toNat * 11)).off + 2, none⟩ = some (.int .i64 ((rd_T64 l1_6 x5_2).f2.f0)) ∧ w'.cell? ⟨(ad314.add ((x5_2).toNat * 11)).block, (ad314.add ((x5_2).toNat * 11)).off + 3, none⟩ = some (.int .i64 ((rd_T64 l1_6 x5_2).f2.f1)) ∧ w'.cell? ⟨(ad314.add ((x5_2).toNat * 11)).block, (ad314.add ((x5_2).toNat * 11)).off + 4, none⟩ = some (.bool ((rd_T64 l1_6 x5_2).f2.f2)) ∧ w'.cell? ⟨(ad314.add ((x5_2).toNat * 11)).block, (ad314.add ((x5_2).toNat * 11)).off + 5, none⟩ = some (.bool ((rd_T64 l1_6 x5_2).f2.f3)) ∧ w'.cell? ⟨(ad314.add ((x5_2).toNat * 11)).block, (ad314.add ((x5_2).toNat * 11)).off + 6, none⟩ = some (.slice A314_6 ((rd_T64 l1_6 x5_2).f2.f4).length c314_6) ∧ w'.cell? ⟨(ad314.add ((x5_2).toNat * 11)).block, (ad314.add ((x5_2).toNat * 11)).off + 7, none⟩ = some (.slice A314_7 ((rd_T64 l1_6 x5_2).f2.f5).length c314_7) ∧ w'.cell? ⟨(ad314.add ((x5_2).toNat * 11)).block, (ad314.add ((x5_2).toNat * 11)).off + 8, none⟩ = some (.slice A314_8 ((rd_T64 l1_6 x5_2).f2.f6).length c314_8) ∧ w'.cell? ⟨(ad314.add ((x5_2).toNat * 11)).block, (ad314.add ((x5_2).toNat * 11)).off + 9, none⟩ = some (.slice A314_9 ((rd_T64 l1_6 x5_2).f2.f7).length c314_9) ∧ w'.cell? ⟨(ad314.add ((x5_2).toNat * 11)).block, (ad314.add ((x5_2).toNat * 11)).off + 10, none⟩ = some (.int .i64 ((rd_T64 l1_6 x5_2).f2.f8))) (ds := []) (bz 44 0) (by kernel_rfl) rfl rfl ⟨(yG BK311.out 0).trans rfl, (yG BK311.out 1).trans rfl, (yG BK311.out 2).trans rfl, (yG BK311.out 3).trans rfl, (yG BK311.out 4).trans rfl, (yG BK311.out 5).trans rfl, (yG BK311.out 6).trans rfl, (yG BK311.out 7).trans rfl, (yG BK311.out 8).trans rfl, (yG BK312.out 0).trans rfl, (yG BK312.out 1).trans rfl, (yG BK312.out 2).trans rfl, (yG BK312.out 3).trans rfl, (yG BK312.out 4).trans rfl, (yG BK312.out 5).trans rfl, (yG BK312.out 6).trans rfl, (yG BK312.out 7).trans rfl, (yG BK312.out 8).trans rfl, ((HB.out.cell (zQ w _ hw313_0)).trans hw313_0), ((HB.out.cell (zQ w _ hw313_1)).trans hw313_1), ((HB.out.cell (zQ w _ hw313_2)).trans hw313_2), ((HB.out.cell (zQ w _ hw313_3)).trans hw313_3), ((HB.out.cell (zQ w _ hw313_4)).trans hw313_4), ((HB.out.cell (zQ w _ hw313_5)).trans hw313_5), ((HB.out.cell (zQ w _ hw313_6)).trans hw313_6), ((HB.out.cell (zQ w _ hw313_7)).trans hw313_7), ((HB.out.cell (zQ w _ hw313_8)).trans hw313_8), ((HB.out.cell (zQ w _ hw313_9)).trans hw313_9), ((HB.out.cell (zQ w _ hw313_10)).trans hw313_10), ((HB.out.cell (zQ w _ hw314_0)).trans hw314_0), ((HB.out.cell (zQ w _ hw314_1)).trans hw314_1), ((HB.out.cell (zQ w _ hw314_2)).trans hw314_2), ((HB.out.cell (zQ w _ hw314_3)).trans hw314_3), ((HB.out.cell (zQ w _ hw314_4)).trans hw314_4), ((HB.out.cell (zQ w _ hw314_5)).trans hw314_5), ((HB.out.cell (zQ w _ hw314_6)).trans hw314_6), ((HB.out.cell (zQ w _ hw314_7)).trans hw314_7), ((HB.out.cell (zQ w _ hw314_8)).trans hw314_8), ((HB.out.cell (zQ w _ hw314_9)).trans hw314_9), ((HB.out.cell (zQ w _ hw314_10)).trans hw314_10), ((HB.out.cell (zQ w _ hw315_0)).trans hw315_0), ((HB.out.cell (zQ w _ hw315_1)).trans hw315_1), ((HB.out.cell (zQ w _ hw315_2)).trans hw315_2), ((HB.out.cell (zQ w _ hw315_3)).trans hw315_3), ((HB.out.cell (zQ w _ hw315_4)).trans hw315_4), ((HB.out.cell (zQ w _ hw315_5)).trans hw315_5), ((HB.out.cell (zQ w _ hw315_6)).trans hw315_6), ((HB.out.cell (zQ w _ hw315_7)).trans hw315_7), ((HB.out.cell (zQ w _ hw315_8)).trans hw315_8), ((HB.out.cell (zQ w _ hw315_9)).trans hw315_9), ((HB.out.cell (zQ w _ hw315_10)).trans hw315_10), ((HB.out.cell (zQ w _ hw316_0)).trans hw316_0), ((HB.out.cell (zQ w _ hw316_1)).trans hw316_1), ((HB.out.cell (zQ w _ hw316_2)).trans hw316_2), ((HB.out.cell (zQ w _ hw316_3)).trans hw316_3), ((HB.out.cell (zQ w _ hw316_4)).trans hw316_4), ((HB.out.cell (zQ w _ hw316_5)).trans hw316_5), ((HB.out.cell (zQ w _ hw316_6)).trans hw316_6), ((HB.out.cell (zQ w _ hw316_7)).trans hw316_7), ((HB.out.cell (zQ w _ hw316_8)).trans hw316_8), ((HB.out.cell (zQ w _ hw316_9)).trans hw316_9), ((HB.out.cell (zQ w _ hw316_10)).trans hw316_10)⟩ (fun hHeld => ?_); refine with_tabW spec_SameType.tab6 spec_SameType.bits6 (fun HT_ HW_ => ?_)
           generalize wr.drew = w51 at BK311 BK312 HB HR313_6 HR313_7 HR313_8 HR313_9 HR314_6 HR314_7 HR314_8 HR314_9 HR315_6 HR315_7 HR315_8 HR315_9 HR316_6 HR316_7 HR316_8 HR316_9 hx313_0 hx313_1 hx313_10 hx313_2 hx313_3 hx313_4 hx313_5 hx313_6 hx313_7 hx313_8 hx313_9 hx314_0 hx314_1 hx314_10 hx314_2 hx314_3 hx314_4 hx314_5 hx314_6 hx314_7 hx314_8 hx314_9 hx315_0 hx315_1 hx315_10 hx315_2 hx315_3 hx315_4 hx315_5 hx315_6 hx315_7 hx315_8 hx315_9 hx316_0 hx316_1 hx316_10 hx316_2 hx316_3 hx316_4 hx316_5 hx316_6 hx316_7 hx316_8 hx316_9 hHeld ⊢
           refine qA 0 65 (bz 44 1) HT_ ?_
           refine qA 2 67 (bz 44 5) HT_ ?_
           refine qA 6 71 (bz 44 69) HT_ ?_
           refine qA 8 73 (bz 44 325) HT_ ?_
           refine qC 1 66 (bz 44 327) HT_ HW_ hHeld ?_ (hy := by rintro w' ⟨s0, s1, s2, s3, s4, s5, s6, s7, s8, s9, s10, s11, s12, s13, s14, s15, s16, s17, s18, s19, s20, s21, s22, s23, s24, s25, s26, s27, s28, s29, s30, s31, s32, s33, s34, s35, s36, s37, s38, s39, s40, s41, s42, s43, s44, s45, s46, s47, s48, s49, s50, s51, s52, s53, s54, s55, s56, s57, s58, s59, s60, s61⟩; go_simp; with_reducible rfl)
           refine qA 3 68 (bz 44 335) HT_ ?_
           refine qA 4 69 (bz 44 351) HT_ ?_
           refine qC 5 70 (bz 44 383) HT_ HW_ hHeld ?_ (hy := by rintro w' ⟨s0, s1, s2, s3, s4, s5, s6, s7, s8, s9, s10, s11, s12, s13, s14, s15, s16, s17, s18, s19, s20, s21, s22, s23, s24, s25, s26, s27, s28, s29, s30, s31, s32, s33, s34, s35, s36, s37, s38, s39, s40, s41, s42, s43, s44, s45, s46, s47, s48, s49, s50, s51, s52, s53, s54, s55, s56, s57, s58, s59, s60, s61⟩; go_simp; with_reducible rfl)
           refine qC 7 72 (bz 44 511) HT_ HW_ hHeld ?_ (hy := by rintro w' ⟨s0, s1, s2, s3, s4, s5, s6, s7, s8, s9, s10, s11, s12, s13, s14, s15, s16, s17, s18, s19, s20, s21, s22, s23, s24, s25, s26, s27, s28, s29, s30, s31, s32, s33, s34, s35, s36, s37, s38, s39, s40, s41, s42, s43, s44, s45, s46, s47, s48, s49, s50, s51, s52, s53, s54, s55, s56, s57, s58, s59, s60, s61⟩; go_simp; with_reducible rfl)
           refine qA 9 74 (bz 44 1023) HT_ ?_
           refine qA 10 75 (bz 44 2047) HT_ ?_
           refine qC 11 76 (bz 44 4095) HT_ HW_ hHeld ?_ (hy := by rintro w' ⟨s0, s1, s2, s3, s4, s5, s6, s7, s8, s9, s10, s11, s12, s13, s14, s15, s16, s17, s18, s19, s20, s21, s22, s23, s24, s25, s26, s27, s28, s29, s30, s31, s32, s33, s34, s35, s36, s37, s38, s39, s40, s41, s42, s43, s44, s45, s46, s47, s48, s49, s50, s51, s52, s53, s54, s55, s56, s57, s58, s59, s60, s61⟩; go_simp; with_reducible rfl)
           refine qA 12 77 (bz 44 8191) HT_ ?_
           refine qA 13 78 (bz 44 16383) HT_ ?_
           refine qA 14 79 (bz 44 32767) HT_ ?_
           refine qA 16 81 (bz 44 98303) HT_ ?_
           refine qA 20 85 (bz 44 1146879) HT_ ?_
           refine qA 22 87 (bz 44 5341183) HT_ ?_
           refine qC 15 80 (bz 44 5373951) HT_ HW_ hHeld ?_ (hy := by rintro w' ⟨s0, s1, s2, s3, s4, s5, s6, s7, s8, s9, s10, s11, s12, s13, s14, s15, s16, s17, s18, s19, s20, s21, s22, s23, s24, s25, s26, s27, s28, s29, s30, s31, s32, s33, s34, s35, s36, s37, s38, s39, s40, s41, s42, s43, s44, s45, s46, s47, s48, s49, s50, s51, s52, s53, s54, s55, s56, s57, s58, s59, s60, s61⟩; go_simp; with_reducible rfl)
           refine qA 17 82 (bz 44 5505023) HT_ ?_
           refine qA 18 83 (bz 44 5767167) HT_ ?_
           refine qC 19 84 (bz 44 6291455) HT_ HW_ hHeld ?_ (hy := by rintro w' ⟨s0, s1, s2, s3, s4, s5, s6, s7, s8, s9, s10, s11, s12, s13, s14, s15, s16, s17, s18, s19, s20, s21, s22, s23, s24, s25, s26, s27, s28, s29, s30, s31, s32, s33, s34, s35, s36, s37, s38, s39, s40, s41, s42, s43, s44, s45, s46, s47, s48, s49, s50, s51, s52, s53, s54, s55, s56, s57, s58, s59, s60, s61⟩; go_simp; with_reducible rfl)
           refine qC 21 86 (bz 44 8388607) HT_ HW_ hHeld ?_ (hy := by rintro w' ⟨s0, s1, s2, s3, s4, s5, s6, s7, s8, s9, s10, s11, s12, s13, s14, s15, s16, s17, s18, s19, s20, s21, s22, s23, s24, s25, s26, s27, s28, s29, s30, s31, s32, s33, s34, s35, s36, s37, s38, s39, s40, s41, s42, s43, s44, s45, s46, s47, s48, s49, s50, s51, s52, s53, s54, s55, s56, s57, s58, s59, s60, s61⟩; go_simp; with_reducible rfl)
           refine qA 23 88 (bz 44 16777215) HT_ ?_
           refine qA 24 89 (bz 44 33554431) HT_ ?_
           refine qC 25 90 (bz 44 67108863) HT_ HW_ hHeld ?_ (hy := by rintro w' ⟨s0, s1, s2, s3, s4, s5, s6, s7, s8, s9, s10, s11, s12, s13, s14, s15, s16, s17, s18, s19, s20, s21, s22, s23, s24, s25, s26, s27, s28, s29, s30, s31, s32, s33, s34, s35, s36, s37, s38, s39, s40, s41, s42, s43, s44, s45, s46, s47, s48, s49, s50, s51, s52, s53, s54, s55, s56, s57, s58, s59, s60, s61⟩; go_simp; with_reducible rfl)
           refine qA 26 91 (bz 44 134217727) HT_ ?_
           refine qA 27 92 (bz 44 268435455) HT_ ?_
           refine qA 28 93 (bz 44 536870911) HT_ ?_
           refine qB 29 94 (bz 44 1073741823) HT_ ?_
           refine qB 30 95 (bz 44 2147483647) HT_ ?_
           refine qB 31 96 (bz 44 4294967295) HT_ ?_
           refine qB 32 97 (bz 44 8589934591) HT_ ?_
           refine qB 33 98 (bz 44 17179869183) HT_ ?_
           refine qB 34 99 (bz 44 34359738367) HT_ ?_
           refine qB 35 100 (bz 44 68719476735) HT_ ?_
           refine qB 36 101 (bz 44 137438953471) HT_ ?_
           refine qB 37 102 (bz 44 274877906943) HT_ ?_
           refine qB 38 103 (bz 44 549755813887) HT_ ?_
           refine qB 39 104 (bz 44 1099511627775) HT_ ?_
           refine qB 40 105 (bz 44 2199023255551) HT_ ?_
           refine qB 41 106 (bz 44 4398046511103) HT_ ?_
           refine qB 42 107 (bz 44 8796093022207) HT_ ?_
           refine qA 43 108 (bz 44 17592186044415) HT_ ?_
           refine done_ (done_of HT_.out (by kernel_rfl)) ?_
           try go_wp2
           go_ret
           exact ⟨by first | rfl | (simp <;> rfl) | (simp [*] <;> rfl), kR0 HB⟩
         ·
          rw [if_neg c37] at H
          have c37b0 : (((rd_T64 l0_6 x5_2).f0).toList == ((rd_T64 l1_6 x5_2).f0).toList) = false := beq_eq_false_iff_ne.mpr c37
          have c37b1 : (((rd_T64 l0_6 x5_2).f0).toList != ((rd_T64 l1_6 x5_2).f0).toList) = true := bne_iff_ne.mpr c37
          obtain rfl := Option.some.inj H; have hnb52 := NB311_312.out; have hnc52 := NB312_311.out
          obtain ⟨hcz53_0, hcz53_1, hcz53_2, hcz53_3, hcz53_4, hcz53_5, hcz53_6, hcz53_7, hcz53_8⟩ := cz9 BK311.out
          obtain ⟨hfz53_0, hfz53_1, hfz53_2, hfz53_3, hfz53_4, hfz53_5, hfz53_6, hfz53_7, hfz53_8⟩ := fz9 BK311.out
          try go_wp2
          have n0_ := yD (yO BK311.out)
          have n1_ := yD (yO BK312.out)
          have n2_ := yD (yP HB.out)
          clear BK311 BK312 HB; have BK311 := n0_; have BK312 := n1_; have HB := n2_; clear n0_ n1_ n2_
          have p313 : 0 ≤ (x5_2 : Int) := zP (by assumption)
          have q313 : x5_2 < (l0_6.length : Int) := zP (by assumption)
          obtain ⟨ad313, A313_6, c313_6, A313_7, c313_7, A313_8, c313_8, A313_9, c313_9, e313, hx313_0, hx313_1, hx313_2, hx313_3, hx313_4, hx313_5, hx313_6, hx313_7, hx313_8, hx313_9, hx313_10, hl313_6, hi313_6, hl313_7, hi313_7, hl313_8, hi313_8, hl313_9, hi313_9⟩ := at_T64 HR0_6.out x5_2 p313 q313
          have hw313_10 := hx313_10; have hw313_9 := hx313_9; have hw313_8 := hx313_8; have hw313_7 := hx313_7; have hw313_6 := hx313_6; have hw313_5 := hx313_5; have hw313_4 := hx313_4; have hw313_3 := hx313_3; have hw313_2 := hx313_2; have hw313_1 := hx313_1; have hw313_0 := hx313_0; cases e313
          replace hx313_0 := (HB.out.cell (zQ w _ hx313_0)).trans hx313_0
          replace hx313_1 := (HB.out.cell (zQ w _ hx313_1)).trans hx313_1
          replace hx313_2 := (HB.out.cell (zQ w _ hx313_2)).trans hx313_2
          replace hx313_3 := (HB.out.cell (zQ w _ hx313_3)).trans hx313_3
          replace hx313_4 := (HB.out.cell (zQ w _ hx313_4)).trans hx313_4
          replace hx313_5 := (HB.out.cell (zQ w _ hx313_5)).trans hx313_5
          replace hx313_6 := (HB.out.cell (zQ w _ hx313_6)).trans hx313_6
          replace hx313_7 := (HB.out.cell (zQ w _ hx313_7)).trans hx313_7
          replace hx313_8 := (HB.out.cell (zQ w _ hx313_8)).trans hx313_8
          replace hx313_9 := (HB.out.cell (zQ w _ hx313_9)).trans hx313_9
          replace hx313_10 := (HB.out.cell (zQ w _ hx313_10)).trans hx313_10
          have HR313_6 := yD hi313_6
          have HC313_6 := yD hl313_6
          clear hi313_6 hl313_6
          have HR313_7 := yD hi313_7
          have HC313_7 := yD hl313_7
          clear hi313_7 hl313_7
          have HR313_8 := yD hi313_8
          have HC313_8 := yD hl313_8
          clear hi313_8 hl313_8
          have HR313_9 := yD hi313_9
          have HC313_9 := yD hl313_9
          clear hi313_9 hl313_9; replace p313 := eq_true p313; replace q313 := eq_true q313
          have p314 : 0 ≤ (x5_2 : Int) := zP (by assumption)
          have q314 : x5_2 < (l1_6.length : Int) := zP (by assumption)
          obtain ⟨ad314, A314_6, c314_6, A314_7, c314_7, A314_8, c314_8, A314_9, c314_9, e314, hx314_0, hx314_1, hx314_2, hx314_3, hx314_4, hx314_5, hx314_6, hx314_7, hx314_8, hx314_9, hx314_10, hl314_6, hi314_6, hl314_7, hi314_7, hl314_8, hi314_8, hl314_9, hi314_9⟩ := at_T64 HR1_6.out x5_2 p314 q314
          have hw314_10 := hx314_10; have hw314_9 := hx314_9; have hw314_8 := hx314_8; have hw314_7 := hx314_7; have hw314_6 := hx314_6; have hw314_5 := hx314_5; have hw314_4 := hx314_4; have hw314_3 := hx314_3; have hw314_2 := hx314_2; have hw314_1 := hx314_1; have hw314_0 := hx314_0; cases e314
          replace hx314_0 := (HB.out.cell (zQ w _ hx314_0)).trans hx314_0
          replace hx314_1 := (HB.out.cell (zQ w _ hx314_1)).trans hx314_1
          replace hx314_2 := (HB.out.cell (zQ w _ hx314_2)).trans hx314_2
          replace hx314_3 := (HB.out.cell (zQ w _ hx314_3)).trans hx314_3
          replace hx314_4 := (HB.out.cell (zQ w _ hx314_4)).trans hx314_4
          replace hx314_5 := (HB.out.cell (zQ w _ hx314_5)).trans hx314_5
          replace hx314_6 := (HB.out.cell (zQ w _ hx314_6)).trans hx314_6
          replace hx314_7 := (HB.out.cell (zQ w _ hx314_7)).trans hx314_7
          replace hx314_8 := (HB.out.cell (zQ w _ hx314_8)).trans hx314_8
          replace hx314_9 := (HB.out.cell (zQ w _ hx314_9)).trans hx314_9
          replace hx314_10 := (HB.out.cell (zQ w _ hx314_10)).trans hx314_10
          have HR314_6 := yD hi314_6
          have HC314_6 := yD hl314_6
          clear hi314_6 hl314_6
          have HR314_7 := yD hi314_7
          have HC314_7 := yD hl314_7
          clear hi314_7 hl314_7
          have HR314_8 := yD hi314_8
          have HC314_8 := yD hl314_8
          clear hi314_8 hl314_8
          have HR314_9 := yD hi314_9
          have HC314_9 := yD hl314_9
          clear hi314_9 hl314_9; replace p314 := eq_true p314; replace q314 := eq_true q314
          refine start_ (n := 44) (S := fun w' => w'.cell? ⟨gb311, 0, none⟩ = some (.int .i64 a0_0) ∧ w'.cell? ⟨gb311, 1, none⟩ = some (.int .i64 a0_1) ∧ w'.cell? ⟨gb311, 2, none⟩ = some (.bool a0_2) ∧ w'.cell? ⟨gb311, 3, none⟩ = some (.bool a0_3) ∧ w'.cell? ⟨gb311, 4, none⟩ = some (.slice A0_4 l0_4.length c0_4) ∧ w'.cell? ⟨gb311, 5, none⟩ = some (.slice A0_5 l0_5.length c0_5) ∧ w'.cell? ⟨gb311, 6, none⟩ = some (.slice (some ad313) l0_6.length c0_6) ∧ w'.cell? ⟨gb311, 7, none⟩ = some (.slice A0_7 l0_7.length c0_7) ∧ w'.cell? ⟨gb311, 8, none⟩ = some (.int .i64 a0_8) ∧ w'.cell? ⟨gb312, 0, none⟩ = some (.int .i64 a1_0) ∧ w'.cell? ⟨gb312, 1, none⟩ = some (.int .i64 a1_1) ∧ w'.cell? ⟨gb312, 2, none⟩ = some (.bool a1_2) ∧ w'.cell? ⟨gb312, 3, none⟩ = some (.bool a1_3) ∧ w'.cell? ⟨gb312, 4, none⟩ = some (.slice A1_4 l1_4.length c1_4) ∧ w'.cell? ⟨gb312, 5, none⟩ = some (.slice A1_5 l1_5.length c1_5) ∧ w'.cell? ⟨gb312, 6, none⟩ = some (.slice (some ad314) l1_6.length c1_6) ∧ w'.cell? ⟨gb312, 7, none⟩ = some (.slice A1_7 l1_7.length c1_7) ∧ w'.cell? ⟨gb312, 8, none⟩ = some (.int .i64 a1_8) ∧ w'.cell? (ad313.add ((x5_2).toNat * 11)) = some (.string ((rd_T64 l0_6 x5_2).f0)) ∧ w'.cell? ⟨(ad313.add ((x5_2).toNat * 11)).block, (ad313.add ((x5_2).toNat * 11)).off + 1, none⟩ = some (.int .i64 ((rd_T64 l0_6 x5_2).f1)) ∧ w'.cell? ⟨(ad313.add ((x5_2).toNat * 11)).block, (ad313.add ((x5_2).toNat * 11)).off + 2, none⟩ = some (.int .i64 ((rd_T64 l0_6 x5_2).f2.f0)) ∧ w'.cell? ⟨(ad313.add ((x5_2).toNat * 11)).block, (ad313.add ((x5_2).toNat * 11)).off + 3, none⟩ = some (.int .i64 ((rd_T64 l0_6 x5_2).f2.f1)) ∧ w'.cell? ⟨(ad313.add ((x5_2).toNat * 11)).block, (ad313.add ((x5_2).toNat * 11)).off + 4, none⟩ = some (.bool ((rd_T64 l0_6 x5_2).f2.f2)) ∧ w'.cell? ⟨(ad313.add ((x5_2).toNat * 11)).block, (ad313.add ((x5_2).toNat * 11)).off + 5, none⟩ = some (.bool ((rd_T64 l0_6 x5_2).f2.f3)) ∧ w'.cell? ⟨(ad313.add ((x5_2).toNat * 11)).block, (ad313.add ((x5_2).toNat * 11)).off + 6, none⟩ = some (.slice A313_6 ((rd_T64 l0_6 x5_2).f2.f4).length c313_6) ∧ w'.cell? ⟨(ad313.add ((x5_2).toNat * 11)).block, (ad313.add ((x5_2).toNat * 11)).off + 7, none⟩ = some (.slice A313_7 ((rd_T64 l0_6 x5_2).f2.f5).length c313_7) ∧ w'.cell? ⟨(ad313.add ((x5_2).toNat * 11)).block, (ad313.add ((x5_2).toNat * 11)).off + 8, none⟩ = some (.slice A313_8 ((rd_T64 l0_6 x5_2).f2.f6).length c313_8) ∧ w'.cell? ⟨(ad313.add ((x5_2).toNat * 11)).block, (ad313.add ((x5_2).toNat * 11)).off + 9, none⟩ = some (.slice A313_9 ((rd_T64 l0_6 x5_2).f2.f7).length c313_9) ∧ w'.cell? ⟨(ad313.add ((x5_2).toNat * 11)).block, (ad313.add ((x5_2).toNat * 11)).off + 10, none⟩ = some (.int .i64 ((rd_T64 l0_6 x5_2).f2.f8)) ∧ w'.cell? (ad314.add ((x5_2).toNat * 11)) = some (.string ((rd_T64 l1_6 x5_2).f0)) ∧ w'.cell? ⟨(ad314.add ((x5_2).toNat * 11)).block, (ad314.add ((x5_2).toNat * 11)).off + 1, none⟩ = some (.int .i64 ((rd_T64 l1_6 x5_2).f1)) ∧ w'.cell? ⟨(ad314.add ((x5_2).toNat * 11)).block, (ad314.add ((x5_2).toNat * 11)).off + 2, none⟩ = some (.int .i64 ((rd_T64 l1_6 x5_2).f2.f0)) ∧ w'.cell? ⟨(ad314.add ((x5_2).toNat * 11)).block, (ad314.add ((x5_2).toNat * 11)).off + 3, none⟩ = some (.int .i64 ((rd_T64 l1_6 x5_2).f2.f1)) ∧ w'.cell? ⟨(ad314.add ((x5_2).toNat * 11)).block, (ad314.add ((x5_2).toNat * 11)).off + 4, none⟩ = some (.bool ((rd_T64 l1_6 x5_2).f2.f2)) ∧ w'.cell? ⟨(ad314.add ((x5_2).toNat * 11)).block, (ad314.add ((x5_2).toNat * 11)).off + 5, none⟩ = some (.bool ((rd_T64 l1_6 x5_2).f2.f3)) ∧ w'.cell? ⟨(ad314.add ((x5_2).toNat * 11)).block, (ad314.add ((x5_2).toNat * 11)).off + 6, none⟩ = some (.slice A314_6 ((rd_T64 l1_6 x5_2).f2.f4).length c314_6) ∧ w'.cell? ⟨(ad314.add ((x5_2).toNat * 11)).block, (ad314.add ((x5_2).toNat * 11)).off + 7, none⟩ = some (.slice A314_7 ((rd_T64 l1_6 x5_2).f2.f5).length c314_7) ∧ w'.cell? ⟨(ad314.add ((x5_2).toNat * 11)).block, (ad314.add ((x5_2).toNat * 11)).off + 8, none⟩ = some (.slice A314_8 ((rd_T64 l1_6 x5_2).f2.f6).length c314_8) ∧ w'.cell? ⟨(ad314.add ((x5_2).toNat * 11)).block, (ad314.add ((x5_2).toNat * 11)).off + 9, none⟩ = some (.slice A314_9 ((rd_T64 l1_6 x5_2).f2.f7).length c314_9) ∧ w'.cell? ⟨(ad314.add ((x5_2).toNat * 11)).block, (ad314.add ((x5_2).toNat * 11)).off + 10, none⟩ = some (.int .i64 ((rd_T64 l1_6 x5_2).f2.f8))) (ds := []) (bz 44 0) (by kernel_rfl) rfl rfl ⟨(yG BK311.out 0).trans rfl, (yG BK311.out 1).trans rfl, (yG BK311.out 2).trans rfl, (yG BK311.out 3).trans rfl, (yG BK311.out 4).trans rfl, (yG BK311.out 5).trans rfl, (yG BK311.out 6).trans rfl, (yG BK311.out 7).trans rfl, (yG BK311.out 8).trans rfl, (yG BK312.out 0).trans rfl, (yG BK312.out 1).trans rfl, (yG BK312.out 2).trans rfl, (yG BK312.out 3).trans rfl, (yG BK312.out 4).trans rfl, (yG BK312.out 5).trans rfl, (yG BK312.out 6).trans rfl, (yG BK312.out 7).trans rfl, (yG BK312.out 8).trans rfl, ((HB.out.cell (zQ w _ hw313_0)).trans hw313_0), ((HB.out.cell (zQ w _ hw313_1)).trans hw313_1), ((HB.out.cell (zQ w _ hw313_2)).trans hw313_2), ((HB.out.cell (zQ w _ hw313_3)).trans hw313_3), ((HB.out.cell (zQ w _ hw313_4)).trans hw313_4), ((HB.out.cell (zQ w _ hw313_5)).trans hw313_5), ((HB.out.cell (zQ w _ hw313_6)).trans hw313_6), ((HB.out.cell (zQ w _ hw313_7)).trans hw313_7), ((HB.out.cell (zQ w _ hw313_8)).trans hw313_8), ((HB.out.cell (zQ w _ hw313_9)).trans hw313_9), ((HB.out.cell (zQ w _ hw313_10)).trans hw313_10), ((HB.out.cell (zQ w _ hw314_0)).trans hw314_0), ((HB.out.cell (zQ w _ hw314_1)).trans hw314_1), ((HB.out.cell (zQ w _ hw314_2)).trans hw314_2), ((HB.out.cell (zQ w _ hw314_3)).trans hw314_3), ((HB.out.cell (zQ w _ hw314_4)).trans hw314_4), ((HB.out.cell (zQ w _ hw314_5)).trans hw314_5), ((HB.out.cell (zQ w _ hw314_6)).trans hw314_6), ((HB.out.cell (zQ w _ hw314_7)).trans hw314_7), ((HB.out.cell (zQ w _ hw314_8)).trans hw314_8), ((HB.out.cell (zQ w _ hw314_9)).trans hw314_9), ((HB.out.cell (zQ w _ hw314_10)).trans hw314_10)⟩ (fun hHeld => ?_); refine with_tabW spec_SameType.tab6 spec_SameType.bits6 (fun HT_ HW_ => ?_)
          generalize wr.drew = w54 at BK311 BK312 HB HR313_6 HR313_7 HR313_8 HR313_9 HR314_6 HR314_7 HR314_8 HR314_9 hx313_0 hx313_1 hx313_10 hx313_2 hx313_3 hx313_4 hx313_5 hx313_6 hx313_7 hx313_8 hx313_9 hx314_0 hx314_1 hx314_10 hx314_2 hx314_3 hx314_4 hx314_5 hx314_6 hx314_7 hx314_8 hx314_9 hHeld ⊢
          refine qA 0 65 (bz 44 1) HT_ ?_
          refine qA 2 67 (bz 44 5) HT_ ?_
          refine qA 6 71 (bz 44 69) HT_ ?_
          refine qA 8 73 (bz 44 325) HT_ ?_
          refine qC 1 66 (bz 44 327) HT_ HW_ hHeld ?_ (hy := by rintro w' ⟨s0, s1, s2, s3, s4, s5, s6, s7, s8, s9, s10, s11, s12, s13, s14, s15, s16, s17, s18, s19, s20, s21, s22, s23, s24, s25, s26, s27, s28, s29, s30, s31, s32, s33, s34, s35, s36, s37, s38, s39⟩; go_simp; with_reducible rfl)
          refine qA 3 68 (bz 44 335) HT_ ?_
          refine qA 4 69 (bz 44 351) HT_ ?_
          refine qC 5 70 (bz 44 383) HT_ HW_ hHeld ?_ (hy := by rintro w' ⟨s0, s1, s2, s3, s4, s5, s6, s7, s8, s9, s10, s11, s12, s13, s14, s15, s16, s17, s18, s19, s20, s21, s22, s23, s24, s25, s26, s27, s28, s29, s30, s31, s32, s33, s34, s35, s36, s37, s38, s39⟩; go_simp; with_reducible rfl)
          refine qC 7 72 (bz 44 511) HT_ HW_ hHeld ?_ (hy := by rintro w' ⟨s0, s1, s2, s3, s4, s5, s6, s7, s8, s9, s10, s11, s12, s13, s14, s15, s16, s17, s18, s19, s20, s21, s22, s23, s24, s25, s26, s27, s28, s29, s30, s31, s32, s33, s34, s35, s36, s37, s38, s39⟩; go_simp; with_reducible rfl)
          refine qA 9 74 (bz 44 1023) HT_ ?_
          refine qA 10 75 (bz 44 2047) HT_ ?_
          refine qC 11 76 (bz 44 4095) HT_ HW_ hHeld ?_ (hy := by rintro w' ⟨s0, s1, s2, s3, s4, s5, s6, s7, s8, s9, s10, s11, s12, s13, s14, s15, s16, s17, s18, s19, s20, s21, s22, s23, s24, s25, s26, s27, s28, s29, s30, s31, s32, s33, s34, s35, s36, s37, s38, s39⟩; go_simp; with_reducible rfl)
          refine qA 12 77 (bz 44 8191) HT_ ?_
          refine qA 13 78 (bz 44 16383) HT_ ?_
          refine qB 14 79 (bz 44 32767) HT_ ?_
          refine qB 15 80 (bz 44 65535) HT_ ?_
          refine qB 16 81 (bz 44 131071) HT_ ?_
          refine qB 17 82 (bz 44 262143) HT_ ?_
          refine qB 18 83 (bz 44 524287) HT_ ?_
          refine qB 19 84 (bz 44 1048575) HT_ ?_
          refine qB 20 85 (bz 44 2097151) HT_ ?_
          refine qB 21 86 (bz 44 4194303) HT_ ?_
          refine qB 22 87 (bz 44 8388607) HT_ ?_
          refine qB 23 88 (bz 44 16777215) HT_ ?_
          refine qB 24 89 (bz 44 33554431) HT_ ?_
          refine qB 25 90 (bz 44 67108863) HT_ ?_
          refine qB 26 91 (bz 44 134217727) HT_ ?_
          refine qA 27 92 (bz 44 268435455) HT_ ?_
          refine qA 28 93 (bz 44 536870911) HT_ ?_
          refine qB 29 94 (bz 44 1073741823) HT_ ?_
          refine qB 30 95 (bz 44 2147483647) HT_ ?_
          refine qB 31 96 (bz 44 4294967295) HT_ ?_
          refine qB 32 97 (bz 44 8589934591) HT_ ?_
          refine qB 33 98 (bz 44 17179869183) HT_ ?_
          refine qB 34 99 (bz 44 34359738367) HT_ ?_
          refine qB 35 100 (bz 44 68719476735) HT_ ?_
          refine qB 36 101 (bz 44 137438953471) HT_ ?_
          refine qB 37 102 (bz 44 274877906943) HT_ ?_
          refine qB 38 103 (bz 44 549755813887) HT_ ?_
          refine qB 39 104 (bz 44 1099511627775) HT_ ?_
          refine qB 40 105 (bz 44 2199023255551) HT_ ?_
          refine qB 41 106 (bz 44 4398046511103) HT_ ?_
          refine qB 42 107 (bz 44 8796093022207) HT_ ?_
          refine qA 43 108 (bz 44 17592186044415) HT_ ?_
          refine done_ (done_of HT_.out (by kernel_rfl)) ?_
          try go_wp2
          go_ret
          exact ⟨by first | rfl | (simp <;> rfl) | (simp [*] <;> rfl), kR0 HB⟩
        · rw [if_neg c36] at H
          exact absurd H (by simp)
       · rw [if_neg c35] at H
         exact absurd H (by simp)
      ·
       rw [if_neg c34] at H
       have c34b0 : decide (x5_2 < (l0_6.length : Int)) = false := zS c34; clear c34
       have H' := yD H
       clear H; have hnb55 := NB311_312.out; have hnc55 := NB312_311.out
       obtain ⟨hcz56_0, hcz56_1, hcz56_2, hcz56_3, hcz56_4, hcz56_5, hcz56_6, hcz56_7, hcz56_8⟩ := cz9 BK311.out
       obtain ⟨hfz56_0, hfz56_1, hfz56_2, hfz56_3, hfz56_4, hfz56_5, hfz56_6, hfz56_7, hfz56_8⟩ := fz9 BK311.out
       go_wp2
       go_loopg [6] k2 (fun kq v6 w' => ∃ (x6_3 : Int), v6 = .int .i64 x6_3 ∧ Aside0 (spec_SameType.l1 kq x6_3 a0_0 a0_1 a0_2 a0_3 l0_4 l0_5 l0_6 l0_7 a0_8 a1_0 a1_1 a1_2 a1_3 l1_4 l1_5 l1_6 l1_7 a1_8 = some r) ∧ Aside0 (kq ≤ k2) ∧ Aside0 (w'.heap[gb311]? = some (.cells #[.int .i64 a0_0, .int .i64 a0_1, .bool a0_2, .bool a0_3, (.slice A0_4 l0_4.length c0_4), (.slice A0_5 l0_5.length c0_5), (.slice A0_6 l0_6.length c0_6), (.slice A0_7 l0_7.length c0_7), .int .i64 a0_8] 33 (0, 0))) ∧ Aside0 (w'.heap[gb312]? = some (.cells #[.int .i64 a1_0, .int .i64 a1_1, .bool a1_2, .bool a1_3, (.slice A1_4 l1_4.length c1_4), (.slice A1_5 l1_5.length c1_5), (.slice A1_6 l1_6.length c1_6), (.slice A1_7 l1_7.length c1_7), .int .i64 a1_8] 33 (0, 0))) ∧ Aside0 (Below w.heap.size w w'))
       case atStart => exact ⟨(0), (by first | rfl | (simp; done) | (simp [*]; done)), H', ⟨Nat.le_refl _⟩, ⟨kM BK311⟩, ⟨kM BK312⟩, ⟨kR0 HB⟩⟩
       case round =>
        clear H'
        try clear c1; try clear c34; try clear c34b0; try clear c35; try clear c36; try clear c37; try clear c37b0; try clear c37b1; try clear hcz53_0; try clear hcz53_1; try clear hcz53_2; try clear hcz53_3; try clear hcz53_4; try clear hcz53_5; try clear hcz53_6; try clear hcz53_7; try clear hcz53_8; try clear hcz56_0; try clear hcz56_1; try clear hcz56_2; try clear hcz56_3; try clear hcz56_4; try clear hcz56_5; try clear hcz56_6; try clear hcz56_7; try clear hcz56_8; try clear hfz53_0; try clear hfz53_1; try clear hfz53_2; try clear hfz53_3; try clear hfz53_4; try clear hfz53_5; try clear hfz53_6; try clear hfz53_7; try clear hfz53_8; try clear hfz56_0; try clear hfz56_1; try clear hfz56_2; try clear hfz56_3; try clear hfz56_4; try clear hfz56_5; try clear hfz56_6; try clear hfz56_7; try clear hfz56_8; try clear hx313_0; try clear hx313_1; try clear hx313_10; try clear hx313_2; try clear hx313_3; try clear hx313_4; try clear hx313_5; try clear hx313_6; try clear hx313_7; try clear hx313_8; try clear hx313_9; try clear hx314_0; try clear hx314_1; try clear hx314_10; try clear hx314_2; try clear hx314_3; try clear hx314_4; try clear hx314_5; try clear hx314_6; try clear hx314_7; try clear hx314_8; try clear hx314_9; try clear p313; try clear p314; try clear q313; try clear q314
        obtain ⟨x6_3, rfl, HA, HK3, BK311, BK312, HB⟩ := hrel
        cases gk with
        | zero => exact absurd HA.out (by simp [spec_SameType.l1])
        | succ k3 =>
         have H := HA.out; clear HA
         simp only [spec_SameType.l1] at H
         by_cases c57 : x6_3 < (l0_7.length : Int)
         ·
          rw [if_pos c57] at H
          have c57b0 : decide (x6_3 < (l0_7.length : Int)) = true := zR c57; clear c57
          by_cases c58 : 0 ≤ x6_3
          ·
           rw [if_pos c58] at H
           have c58b0 : decide (0 ≤ x6_3) = true := zR c58; clear c58
           by_cases c59 : x6_3 < (l1_7.length : Int)
           ·
            rw [if_pos c59] at H
            have c59b0 : decide (x6_3 < (l1_7.length : Int)) = true := zR c59; clear c59
            obtain ⟨t322, A600, H⟩ := zW_ H
            replace H : (if t322 = true then (spec_SameType.l1 k3 (wrap64 (x6_3 + 1)) a0_0 a0_1 a0_2 a0_3 l0_4 l0_5 l0_6 l0_7 a0_8 a1_0 a1_1 a1_2 a1_3 l1_4 l1_5 l1_6 l1_7 a1_8) else (some false)) = some r := H
            have A60 := yD A600
            clear A600
            by_cases c61 : t322 = true
            ·
             subst c61
             replace H : (spec_SameType.l1 k3 (wrap64 (x6_3 + 1)) a0_0 a0_1 a0_2 a0_3 l0_4 l0_5 l0_6 l0_7 a0_8 a1_0 a1_1 a1_2 a1_3 l1_4 l1_5 l1_6 l1_7 a1_8) = some r := (by rw [if_pos rfl] at H; exact H)
             have H' := yD H
             clear H; have hnb62 := NB311_312.out; have hnc62 := NB312_311.out
             obtain ⟨hcz63_0, hcz63_1, hcz63_2, hcz63_3, hcz63_4, hcz63_5, hcz63_6, hcz63_7, hcz63_8⟩ := cz9 BK311.out
             obtain ⟨hfz63_0, hfz63_1, hfz63_2, hfz63_3, hfz63_4, hfz63_5, hfz63_6, hfz63_7, hfz63_8⟩ := fz9 BK311.out
             try go_wp2
             have n0_ := yD (yO BK311.out)
             have n1_ := yD (yO BK312.out)
             have n2_ := yD (yP HB.out)
             clear BK311 BK312 HB; have BK311 := n0_; have BK312 := n1_; have HB := n2_; clear n0_ n1_ n2_
             have p320 : 0 ≤ (x6_3 : Int) := zP (by assumption)
             have q320 : x6_3 < (l0_7.length : Int) := zP (by assumption)
             obtain ⟨ad320, A320_4, c320_4, A320_5, c320_5, A320_6, c320_6, A320_7, c320_7, e320, hx320_0, hx320_1, hx320_2, hx320_3, hx320_4, hx320_5, hx320_6, hx320_7, hx320_8, hl320_4, hi320_4, hl320_5, hi320_5, hl320_6, hi320_6, hl320_7, hi320_7⟩ := at_T33 HR0_7.out x6_3 p320 q320
             have hw320_8 := hx320_8; have hw320_7 := hx320_7; have hw320_6 := hx320_6; have hw320_5 := hx320_5; have hw320_4 := hx320_4; have hw320_3 := hx320_3; have hw320_2 := hx320_2; have hw320_1 := hx320_1; have hw320_0 := hx320_0; cases e320
             replace hx320_0 := (HB.out.cell (zQ w _ hx320_0)).trans hx320_0
             replace hx320_1 := (HB.out.cell (zQ w _ hx320_1)).trans hx320_1
             replace hx320_2 := (HB.out.cell (zQ w _ hx320_2)).trans hx320_2
             replace hx320_3 := (HB.out.cell (zQ w _ hx320_3)).trans hx320_3
             replace hx320_4 := (HB.out.cell (zQ w _ hx320_4)).trans hx320_4
             replace hx320_5 := (HB.out.cell (zQ w _ hx320_5)).trans hx320_5
             replace hx320_6 := (HB.out.cell (zQ w _ hx320_6)).trans hx320_6
             replace hx320_7 := (HB.out.cell (zQ w _ hx320_7)).trans hx320_7
             replace hx320_8 := (HB.out.cell (zQ w _ hx320_8)).trans hx320_8
             have HR320_4 := yD hi320_4
             have HC320_4 := yD hl320_4
             clear hi320_4 hl320_4
             have HR320_5 := yD hi320_5
             have HC320_5 := yD hl320_5
             clear hi320_5 hl320_5
             have HR320_6 := yD hi320_6
             have HC320_6 := yD hl320_6
             clear hi320_6 hl320_6
             have HR320_7 := yD hi320_7
             have HC320_7 := yD hl320_7
             clear hi320_7 hl320_7; replace p320 := eq_true p320; replace q320 := eq_true q320
             have p321 : 0 ≤ (x6_3 : Int) := zP (by assumption)
             have q321 : x6_3 < (l1_7.length : Int) := zP (by assumption)
             obtain ⟨ad321, A321_4, c321_4, A321_5, c321_5, A321_6, c321_6, A321_7, c321_7, e321, hx321_0, hx321_1, hx321_2, hx321_3, hx321_4, hx321_5, hx321_6, hx321_7, hx321_8, hl321_4, hi321_4, hl321_5, hi321_5, hl321_6, hi321_6, hl321_7, hi321_7⟩ := at_T33 HR1_7.out x6_3 p321 q321
             have hw321_8 := hx321_8; have hw321_7 := hx321_7; have hw321_6 := hx321_6; have hw321_5 := hx321_5; have hw321_4 := hx321_4; have hw321_3 := hx321_3; have hw321_2 := hx321_2; have hw321_1 := hx321_1; have hw321_0 := hx321_0; cases e321
             replace hx321_0 := (HB.out.cell (zQ w _ hx321_0)).trans hx321_0
             replace hx321_1 := (HB.out.cell (zQ w _ hx321_1)).trans hx321_1
             replace hx321_2 := (HB.out.cell (zQ w _ hx321_2)).trans hx321_2
             replace hx321_3 := (HB.out.cell (zQ w _ hx321_3)).trans hx321_3
             replace hx321_4 := (HB.out.cell (zQ w _ hx321_4)).trans hx321_4
             replace hx321_5 := (HB.out.cell (zQ w _ hx321_5)).trans hx321_5
             replace hx321_6 := (HB.out.cell (zQ w _ hx321_6)).trans hx321_6
             replace hx321_7 := (HB.out.cell (zQ w _ hx321_7)).trans hx321_7
             replace hx321_8 := (HB.out.cell (zQ w _ hx321_8)).trans hx321_8
             have HR321_4 := yD hi321_4
             have HC321_4 := yD hl321_4
             clear hi321_4 hl321_4
             have HR321_5 := yD hi321_5
             have HC321_5 := yD hl321_5
             clear hi321_5 hl321_5
             have HR321_6 := yD hi321_6
             have HC321_6 := yD hl321_6
             clear hi321_6 hl321_6
             have HR321_7 := yD hi321_7
             have HC321_7 := yD hl321_7
             clear hi321_7 hl321_7; replace p321 := eq_true p321; replace q321 := eq_true q321
             refine start_ (n := 12) (S := fun w' => w'.cell? ⟨gb311, 0, none⟩ = some (.int .i64 a0_0) ∧ w'.cell? ⟨gb311, 1, none⟩ = some (.int .i64 a0_1) ∧ w'.cell? ⟨gb311, 2, none⟩ = some (.bool a0_2) ∧ w'.cell? ⟨gb311, 3, none⟩ = some (.bool a0_3) ∧ w'.cell? ⟨gb311, 4, none⟩ = some (.slice A0_4 l0_4.length c0_4) ∧ w'.cell? ⟨gb311, 5, none⟩ = some (.slice A0_5 l0_5.length c0_5) ∧ w'.cell? ⟨gb311, 6, none⟩ = some (.slice A0_6 l0_6.length c0_6) ∧ w'.cell? ⟨gb311, 7, none⟩ = some (.slice (some ad320) l0_7.length c0_7) ∧ w'.cell? ⟨gb311, 8, none⟩ = some (.int .i64 a0_8) ∧ w'.cell? ⟨gb312, 0, none⟩ = some (.int .i64 a1_0) ∧ w'.cell? ⟨gb312, 1, none⟩ = some (.int .i64 a1_1) ∧ w'.cell? ⟨gb312, 2, none⟩ = some (.bool a1_2) ∧ w'.cell? ⟨gb312, 3, none⟩ = some (.bool a1_3) ∧ w'.cell? ⟨gb312, 4, none⟩ = some (.slice A1_4 l1_4.length c1_4) ∧ w'.cell? ⟨gb312, 5, none⟩ = some (.slice A1_5 l1_5.length c1_5) ∧ w'.cell? ⟨gb312, 6, none⟩ = some (.slice A1_6 l1_6.length c1_6) ∧ w'.cell? ⟨gb312, 7, none⟩ = some (.slice (some ad321) l1_7.length c1_7) ∧ w'.cell? ⟨gb312, 8, none⟩ = some (.int .i64 a1_8) ∧ w'.cell? (ad320.add ((x6_3).toNat * 9)) = some (.int .i64 ((rd_T33 l0_7 x6_3).f0)) ∧ w'.cell? ⟨(ad320.add ((x6_3).toNat * 9)).block, (ad320.add ((x6_3).toNat * 9)).off + 1, none⟩ = some (.int .i64 ((rd_T33 l0_7 x6_3).f1)) ∧ w'.cell? ⟨(ad320.add ((x6_3).toNat * 9)).block, (ad320.add ((x6_3).toNat * 9)).off + 2, none⟩ = some (.bool ((rd_T33 l0_7 x6_3).f2)) ∧ w'.cell? ⟨(ad320.add ((x6_3).toNat * 9)).block, (ad320.add ((x6_3).toNat * 9)).off + 3, none⟩ = some (.bool ((rd_T33 l0_7 x6_3).f3)) ∧ w'.cell? ⟨(ad320.add ((x6_3).toNat * 9)).block, (ad320.add ((x6_3).toNat * 9)).off + 4, none⟩ = some (.slice A320_4 ((rd_T33 l0_7 x6_3).f4).length c320_4) ∧ w'.cell? ⟨(ad320.add ((x6_3).toNat * 9)).block, (ad320.add ((x6_3).toNat * 9)).off + 5, none⟩ = some (.slice A320_5 ((rd_T33 l0_7 x6_3).f5).length c320_5) ∧ w'.cell? ⟨(ad320.add ((x6_3).toNat * 9)).block, (ad320.add ((x6_3).toNat * 9)).off + 6, none⟩ = some (.slice A320_6 ((rd_T33 l0_7 x6_3).f6).length c320_6) ∧ w'.cell? ⟨(ad320.add ((x6_3).toNat * 9)).block, (ad320.add ((x6_3).toNat * 9)).off + 7, none⟩ = some (.slice A320_7 ((rd_T33 l0_7 x6_3).f7).length c320_7) ∧ w'.cell? ⟨(ad320.add ((x6_3).toNat * 9)).block, (ad320.add ((x6_3).toNat * 9)).off + 8, none⟩ = some (.int .i64 ((rd_T33 l0_7 x6_3).f8)) ∧ w'.cell? (ad321.add ((x6_3).toNat * 9)) = some (.int .i64 ((rd_T33 l1_7 x6_3).f0)) ∧ w'.cell? ⟨(ad321.add ((x6_3).toNat * 9)).block, (ad321.add ((x6_3).toNat * 9)).off + 1, none⟩ = some (.int .i64 ((rd_T33 l1_7 x6_3).f1)) ∧ w'.cell? ⟨(ad321.add ((x6_3).toNat * 9)).block, (ad321.add ((x6_3).toNat * 9)).off + 2, none⟩ = some (.bool ((rd_T33 l1_7 x6_3).f2)) ∧ w'.cell? ⟨(ad321.add ((x6_3).toNat * 9)).block, (ad321.add ((x6_3).toNat * 9)).off + 3, none⟩ = some (.bool ((rd_T33 l1_7 x6_3).f3)) ∧ w'.cell? ⟨(ad321.add ((x6_3).toNat * 9)).block, (ad321.add ((x6_3).toNat * 9)).off + 4, none⟩ = some (.slice A321_4 ((rd_T33 l1_7 x6_3).f4).length c321_4) ∧ w'.cell? ⟨(ad321.add ((x6_3).toNat * 9)).block, (ad321.add ((x6_3).toNat * 9)).off + 5, none⟩ = some (.slice A321_5 ((rd_T33 l1_7 x6_3).f5).length c321_5) ∧ w'.cell? ⟨(ad321.add ((x6_3).toNat * 9)).block, (ad321.add ((x6_3).toNat * 9)).off + 6, none⟩ = some (.slice A321_6 ((rd_T33 l1_7 x6_3).f6).length c321_6) ∧ w'.cell? ⟨(ad321.add ((x6_3).toNat * 9)).block, (ad321.add ((x6_3).toNat * 9)).off + 7, none⟩ = some (.slice A321_7 ((rd_T33 l1_7 x6_3).f7).length c321_7) ∧ w'.cell? ⟨(ad321.add ((x6_3).toNat * 9)).block, (ad321.add ((x6_3).toNat * 9)).off + 8, none⟩ = some (.int .i64 ((rd_T33 l1_7 x6_3).f8))) (ds := []) (bz 12 0) (by kernel_rfl) rfl rfl ⟨(yG BK311.out 0).trans rfl, (yG BK311.out 1).trans rfl, (yG BK311.out 2).trans rfl, (yG BK311.out 3).trans rfl, (yG BK311.out 4).trans rfl, (yG BK311.out 5).trans rfl, (yG BK311.out 6).trans rfl, (yG BK311.out 7).trans rfl, (yG BK311.out 8).trans rfl, (yG BK312.out 0).trans rfl, (yG BK312.out 1).trans rfl, (yG BK312.out 2).trans rfl, (yG BK312.out 3).trans rfl, (yG BK312.out 4).trans rfl, (yG BK312.out 5).trans rfl, (yG BK312.out 6).trans rfl, (yG BK312.out 7).trans rfl, (yG BK312.out 8).trans rfl, ((HB.out.cell (zQ w _ hw320_0)).trans hw320_0), ((HB.out.cell (zQ w _ hw320_1)).trans hw320_1), ((HB.out.cell (zQ w _ hw320_2)).trans hw320_2), ((HB.out.cell (zQ w _ hw320_3)).trans hw320_3), ((HB.out.cell (zQ w _ hw320_4)).trans hw320_4), ((HB.out.cell (zQ w _ hw320_5)).trans hw320_5), ((HB.out.cell (zQ w _ hw320_6)).trans hw320_6), ((HB.out.cell (zQ w _ hw320_7)).trans hw320_7), ((HB.out.cell (zQ w _ hw320_8)).trans hw320_8), ((HB.out.cell (zQ w _ hw321_0)).trans hw321_0), ((HB.out.cell (zQ w _ hw321_1)).trans hw321_1), ((HB.out.cell (zQ w _ hw321_2)).trans hw321_2), ((HB.out.cell (zQ w _ hw321_3)).trans hw321_3), ((HB.out.cell (zQ w _ hw321_4)).trans hw321_4), ((HB.out.cell (zQ w _ hw321_5)).trans hw321_5), ((HB.out.cell (zQ w _ hw321_6)).trans hw321_6), ((HB.out.cell (zQ w _ hw321_7)).trans hw321_7), ((HB.out.cell (zQ w _ hw321_8)).trans hw321_8)⟩ (fun hHeld => ?_); refine with_tabW spec_SameType.tab11 spec_SameType.bits11 (fun HT_ HW_ => ?_)
             generalize wr.drew = w64 at BK311 BK312 HB HR320_4 HR320_5 HR320_6 HR320_7 HR321_4 HR321_5 HR321_6 HR321_7 hx320_0 hx320_1 hx320_2 hx320_3 hx320_4 hx320_5 hx320_6 hx320_7 hx320_8 hx321_0 hx321_1 hx321_2 hx321_3 hx321_4 hx321_5 hx321_6 hx321_7 hx321_8 hHeld ⊢
             refine qA 0 116 (bz 12 1) HT_ ?_
             refine qA 2 118 (bz 12 5) HT_ ?_
             refine qA 5 121 (bz 12 37) HT_ ?_
             refine qA 7 123 (bz 12 165) HT_ ?_
             refine qC 1 117 (bz 12 167) HT_ HW_ hHeld ?_ (hy := by rintro w' ⟨s0, s1, s2, s3, s4, s5, s6, s7, s8, s9, s10, s11, s12, s13, s14, s15, s16, s17, s18, s19, s20, s21, s22, s23, s24, s25, s26, s27, s28, s29, s30, s31, s32, s33, s34, s35⟩; go_simp; with_reducible rfl)
             refine qA 3 119 (bz 12 175) HT_ ?_
             refine qC 4 120 (bz 12 191) HT_ HW_ hHeld ?_ (hy := by rintro w' ⟨s0, s1, s2, s3, s4, s5, s6, s7, s8, s9, s10, s11, s12, s13, s14, s15, s16, s17, s18, s19, s20, s21, s22, s23, s24, s25, s26, s27, s28, s29, s30, s31, s32, s33, s34, s35⟩; go_simp; with_reducible rfl)
             refine qC 6 122 (bz 12 255) HT_ HW_ hHeld ?_ (hy := by rintro w' ⟨s0, s1, s2, s3, s4, s5, s6, s7, s8, s9, s10, s11, s12, s13, s14, s15, s16, s17, s18, s19, s20, s21, s22, s23, s24, s25, s26, s27, s28, s29, s30, s31, s32, s33, s34, s35⟩; go_simp; with_reducible rfl)
             refine qA 8 124 (bz 12 511) HT_ ?_
             refine qC 9 125 (bz 12 1023) HT_ HW_ hHeld ?_ (hy := by rintro w' ⟨s0, s1, s2, s3, s4, s5, s6, s7, s8, s9, s10, s11, s12, s13, s14, s15, s16, s17, s18, s19, s20, s21, s22, s23, s24, s25, s26, s27, s28, s29, s30, s31, s32, s33, s34, s35⟩; go_simp; with_reducible rfl)
             refine one_ (i := 10) (N := some 126) (bz 12 2047) rfl rfl (one_of HT_.out (by kernel_rfl)) (by decide) (fun K hK => ?_)
             refine goes_ Try.func8 (by kernel_rfl) rfl #[.agg #[.int .i64 ((rd_T33 l0_7 x6_3).f0), .int .i64 ((rd_T33 l0_7 x6_3).f1), .bool ((rd_T33 l0_7 x6_3).f2), .bool ((rd_T33 l0_7 x6_3).f3), .slice A320_4 ((rd_T33 l0_7 x6_3).f4).length c320_4, .slice A320_5 ((rd_T33 l0_7 x6_3).f5).length c320_5, .slice A320_6 ((rd_T33 l0_7 x6_3).f6).length c320_6, .slice A320_7 ((rd_T33 l0_7 x6_3).f7).length c320_7, .int .i64 ((rd_T33 l0_7 x6_3).f8)], .agg #[.int .i64 ((rd_T33 l1_7 x6_3).f0), .int .i64 ((rd_T33 l1_7 x6_3).f1), .bool ((rd_T33 l1_7 x6_3).f2), .bool ((rd_T33 l1_7 x6_3).f3), .slice A321_4 ((rd_T33 l1_7 x6_3).f4).length c321_4, .slice A321_5 ((rd_T33 l1_7 x6_3).f5).length c321_5, .slice A321_6 ((rd_T33 l1_7 x6_3).f6).length c321_6, .slice A321_7 ((rd_T33 l1_7 x6_3).f7).length c321_7, .int .i64 ((rd_T33 l1_7 x6_3).f8)]] (by rfl) rfl rfl (by (try simp only [zK, zL, zM]); first | done | rfl | (simp only [zN, zO]; rfl)) ?_
             with_reducible refine (ih k3 (by have := HJ2.out; have := HK2.out; have := HK3.out; omega) ((rd_T33 l0_7 x6_3).f0) ((rd_T33 l0_7 x6_3).f1) ((rd_T33 l0_7 x6_3).f2) ((rd_T33 l0_7 x6_3).f3) _ _ ((rd_T33 l0_7 x6_3).f4) _ _ ((rd_T33 l0_7 x6_3).f5) _ _ ((rd_T33 l0_7 x6_3).f6) _ _ ((rd_T33 l0_7 x6_3).f7) ((rd_T33 l0_7 x6_3).f8) ((rd_T33 l1_7 x6_3).f0) ((rd_T33 l1_7 x6_3).f1) ((rd_T33 l1_7 x6_3).f2) ((rd_T33 l1_7 x6_3).f3) _ _ ((rd_T33 l1_7 x6_3).f4) _ _ ((rd_T33 l1_7 x6_3).f5) _ _ ((rd_T33 l1_7 x6_3).f6) _ _ ((rd_T33 l1_7 x6_3).f7) ((rd_T33 l1_7 x6_3).f8) true _ ?side1 ?side2 ?side3 ?side4 ?side5 ?side6 ?side7 ?side8 ?side9 ?side10 ?side11 ?side12 ?side13 ?side14 ?side15 ?side16 A60.out).mono ?_
             (case side1 => exact kV (yY HR320_4.out HB.out))
             (case side2 => exact HC320_4.out)
             (case side3 => exact kV (yY HR320_5.out HB.out))
             (case side4 => exact HC320_5.out)
             (case side5 => exact kV (yY HR320_6.out HB.out))
             (case side6 => exact HC320_6.out)
             (case side7 => exact kV (yY HR320_7.out HB.out))
             (case side8 => exact HC320_7.out)
             (case side9 => exact kV (yY HR321_4.out HB.out))
             (case side10 => exact HC321_4.out)
             (case side11 => exact kV (yY HR321_5.out HB.out))
             (case side12 => exact HC321_5.out)
             (case side13 => exact kV (yY HR321_6.out HB.out))
             (case side14 => exact HC321_6.out)
             (case side15 => exact kV (yY HR321_7.out HB.out))
             (case side16 => exact HC321_7.out)
             rintro e w65 ⟨rfl, hb⟩
             refine ⟨_, rfl, ?_⟩
             have n0_ := yD (zB (kN BK311) hb)
             have n1_ := yD (zB (kN BK312) hb)
             have n2_ := yD (zC (kB HB) hb)
             clear BK311 BK312 HB; have BK311 := n0_; have BK312 := n1_; have HB := n2_; clear n0_ n1_ n2_; (try clear hb); (try clear hb2); (try clear hk); (try clear hi)
             refine hK.out _ _ ⟨(yG BK311.out 0).trans rfl, (yG BK311.out 1).trans rfl, (yG BK311.out 2).trans rfl, (yG BK311.out 3).trans rfl, (yG BK311.out 4).trans rfl, (yG BK311.out 5).trans rfl, (yG BK311.out 6).trans rfl, (yG BK311.out 7).trans rfl, (yG BK311.out 8).trans rfl, (yG BK312.out 0).trans rfl, (yG BK312.out 1).trans rfl, (yG BK312.out 2).trans rfl, (yG BK312.out 3).trans rfl, (yG BK312.out 4).trans rfl, (yG BK312.out 5).trans rfl, (yG BK312.out 6).trans rfl, (yG BK312.out 7).trans rfl, (yG BK312.out 8).trans rfl, ((HB.out.cell (zQ w _ hw320_0)).trans hw320_0), ((HB.out.cell (zQ w _ hw320_1)).trans hw320_1), ((HB.out.cell (zQ w _ hw320_2)).trans hw320_2), ((HB.out.cell (zQ w _ hw320_3)).trans hw320_3), ((HB.out.cell (zQ w _ hw320_4)).trans hw320_4), ((HB.out.cell (zQ w _ hw320_5)).trans hw320_5), ((HB.out.cell (zQ w _ hw320_6)).trans hw320_6), ((HB.out.cell (zQ w _ hw320_7)).trans hw320_7), ((HB.out.cell (zQ w _ hw320_8)).trans hw320_8), ((HB.out.cell (zQ w _ hw321_0)).trans hw321_0), ((HB.out.cell (zQ w _ hw321_1)).trans hw321_1), ((HB.out.cell (zQ w _ hw321_2)).trans hw321_2), ((HB.out.cell (zQ w _ hw321_3)).trans hw321_3), ((HB.out.cell (zQ w _ hw321_4)).trans hw321_4), ((HB.out.cell (zQ w _ hw321_5)).trans hw321_5), ((HB.out.cell (zQ w _ hw321_6)).trans hw321_6), ((HB.out.cell (zQ w _ hw321_7)).trans hw321_7), ((HB.out.cell (zQ w _ hw321_8)).trans hw321_8)⟩ (fun hHeld => ?_)
             clear hK K
             refine norm_ (a' := ?_) ?_ ?_
             rotate_left
             · show Act.put _ (some 126) _ = _
               simp only [Act.put, zH, zI, zJ, i64_w, i32_w]
               rfl
             refine qA 11 127 (bz 12 4095) HT_ ?_
             refine done_ (done_of HT_.out (by kernel_rfl)) ?_
             try go_wp2
             go_roundg k3
             case measure => have := HJ2.out; have := HK2.out; have := HK3.out; omega
             case rel => exact ⟨(wrap64 (x6_3 + 1)), (by first | rfl | (simp; done) | (simp [*]; done)), H', ⟨by have := HJ2.out; have := HK2.out; have := HK3.out; omega⟩, ⟨kM BK311⟩, ⟨kM BK312⟩, ⟨kR0 HB⟩⟩
            ·
             replace c61 := Bool.eq_false_iff.mpr c61
             subst c61
             replace H : (some false) = some r := (by rw [if_neg (show ¬ (false = true) by decide)] at H; exact H); obtain rfl := Option.some.inj H; have hnb66 := NB311_312.out; have hnc66 := NB312_311.out
             obtain ⟨hcz67_0, hcz67_1, hcz67_2, hcz67_3, hcz67_4, hcz67_5, hcz67_6, hcz67_7, hcz67_8⟩ := cz9 BK311.out
             obtain ⟨hfz67_0, hfz67_1, hfz67_2, hfz67_3, hfz67_4, hfz67_5, hfz67_6, hfz67_7, hfz67_8⟩ := fz9 BK311.out
             try go_wp2
             have n0_ := yD (yO BK311.out)
             have n1_ := yD (yO BK312.out)
             have n2_ := yD (yP HB.out)
             clear BK311 BK312 HB; have BK311 := n0_; have BK312 := n1_; have HB := n2_; clear n0_ n1_ n2_
             have p320 : 0 ≤ (x6_3 : Int) := zP (by assumption)
             have q320 : x6_3 < (l0_7.length : Int) := zP (by assumption)
             obtain ⟨ad320, A320_4, c320_4, A320_5, c320_5, A320_6, c320_6, A320_7, c320_7, e320, hx320_0, hx320_1, hx320_2, hx320_3, hx320_4, hx320_5, hx320_6, hx320_7, hx320_8, hl320_4, hi320_4, hl320_5, hi320_5, hl320_6, hi320_6, hl320_7, hi320_7⟩ := at_T33 HR0_7.out x6_3 p320 q320
             have hw320_8 := hx320_8; have hw320_7 := hx320_7; have hw320_6 := hx320_6; have hw320_5 := hx320_5; have hw320_4 := hx320_4; have hw320_3 := hx320_3; have hw320_2 := hx320_2; have hw320_1 := hx320_1; have hw320_0 := hx320_0; cases e320
             replace hx320_0 := (HB.out.cell (zQ w _ hx320_0)).trans hx320_0
             replace hx320_1 := (HB.out.cell (zQ w _ hx320_1)).trans hx320_1
             replace hx320_2 := (HB.out.cell (zQ w _ hx320_2)).trans hx320_2
             replace hx320_3 := (HB.out.cell (zQ w _ hx320_3)).trans hx320_3
             replace hx320_4 := (HB.out.cell (zQ w _ hx320_4)).trans hx320_4
             replace hx320_5 := (HB.out.cell (zQ w _ hx320_5)).trans hx320_5
             replace hx320_6 := (HB.out.cell (zQ w _ hx320_6)).trans hx320_6
             replace hx320_7 := (HB.out.cell (zQ w _ hx320_7)).trans hx320_7
             replace hx320_8 := (HB.out.cell (zQ w _ hx320_8)).trans hx320_8
             have HR320_4 := yD hi320_4
             have HC320_4 := yD hl320_4
             clear hi320_4 hl320_4
             have HR320_5 := yD hi320_5
             have HC320_5 := yD hl320_5
             clear hi320_5 hl320_5
             have HR320_6 := yD hi320_6
             have HC320_6 := yD hl320_6
             clear hi320_6 hl320_6
             have HR320_7 := yD hi320_7
             have HC320_7 := yD hl320_7
             clear hi320_7 hl320_7; replace p320 := eq_true p320; replace q320 := eq_true q320
             have p321 : 0 ≤ (x6_3 : Int) := zP (by assumption)
             have q321 : x6_3 < (l1_7.length : Int) := zP (by assumption)
             obtain ⟨ad321, A321_4, c321_4, A321_5, c321_5, A321_6, c321_6, A321_7, c321_7, e321, hx321_0, hx321_1, hx321_2, hx321_3, hx321_4, hx321_5, hx321_6, hx321_7, hx321_8, hl321_4, hi321_4, hl321_5, hi321_5, hl321_6, hi321_6, hl321_7, hi321_7⟩ := at_T33 HR1_7.out x6_3 p321 q321
             have hw321_8 := hx321_8; have hw321_7 := hx321_7; have hw321_6 := hx321_6; have hw321_5 := hx321_5; have hw321_4 := hx321_4; have hw321_3 := hx321_3; have hw321_2 := hx321_2; have hw321_1 := hx321_1; have hw321_0 := hx321_0; cases e321
             replace hx321_0 := (HB.out.cell (zQ w _ hx321_0)).trans hx321_0
             replace hx321_1 := (HB.out.cell (zQ w _ hx321_1)).trans hx321_1
             replace hx321_2 := (HB.out.cell (zQ w _ hx321_2)).trans hx321_2
             replace hx321_3 := (HB.out.cell (zQ w _ hx321_3)).trans hx321_3
             replace hx321_4 := (HB.out.cell (zQ w _ hx321_4)).trans hx321_4
             replace hx321_5 := (HB.out.cell (zQ w _ hx321_5)).trans hx321_5
             replace hx321_6 := (HB.out.cell (zQ w _ hx321_6)).trans hx321_6
             replace hx321_7 := (HB.out.cell (zQ w _ hx321_7)).trans hx321_7
             replace hx321_8 := (HB.out.cell (zQ w _ hx321_8)).trans hx321_8
             have HR321_4 := yD hi321_4
             have HC321_4 := yD hl321_4
             clear hi321_4 hl321_4
             have HR321_5 := yD hi321_5
             have HC321_5 := yD hl321_5
             clear hi321_5 hl321_5
             have HR321_6 := yD hi321_6
             have HC321_6 := yD hl321_6
             clear hi321_6 hl321_6
             have HR321_7 := yD hi321_7
             have HC321_7 := yD hl321_7
             clear hi321_7 hl321_7; replace p321 := eq_true p321; replace q321 := eq_true q321
             refine start_ (n := 12) (S := fun w' => w'.cell? ⟨gb311, 0, none⟩ = some (.int .i64 a0_0) ∧ w'.cell? ⟨gb311, 1, none⟩ = some (.int .i64 a0_1) ∧ w'.cell? ⟨gb311, 2, none⟩ = some (.bool a0_2) ∧ w'.cell? ⟨gb311, 3, none⟩ = some (.bool a0_3) ∧ w'.cell? ⟨gb311, 4, none⟩ = some (.slice A0_4 l0_4.length c0_4) ∧ w'.cell? ⟨gb311, 5, none⟩ = some (.slice A0_5 l0_5.length c0_5) ∧ w'.cell? ⟨gb311, 6, none⟩ = some (.slice A0_6 l0_6.length c0_6) ∧ w'.cell? ⟨gb311, 7, none⟩ = some (.slice (some ad320) l0_7.length c0_7) ∧ w'.cell? ⟨gb311, 8, none⟩ = some (.int .i64 a0_8) ∧ w'.cell? ⟨gb312, 0, none⟩ = some (.int .i64 a1_0) ∧ w'.cell? ⟨gb312, 1, none⟩ = some (.int .i64 a1_1) ∧ w'.cell? ⟨gb312, 2, none⟩ = some (.bool a1_2) ∧ w'.cell? ⟨gb312, 3, none⟩ = some (.bool a1_3) ∧ w'.cell? ⟨gb312, 4, none⟩ = some (.slice A1_4 l1_4.length c1_4) ∧ w'.cell? ⟨gb312, 5, none⟩ = some (.slice A1_5 l1_5.length c1_5) ∧ w'.cell? ⟨gb312, 6, none⟩ = some (.slice A1_6 l1_6.length c1_6) ∧ w'.cell? ⟨gb312, 7, none⟩ = some (.slice (some ad321) l1_7.length c1_7) ∧ w'.cell? ⟨gb312, 8, none⟩ = some (.int .i64 a1_8) ∧ w'.cell? (ad320.add ((x6_3).toNat * 9)) = some (.int .i64 ((rd_T33 l0_7 x6_3).f0)) ∧ w'.cell? ⟨(ad320.add ((x6_3).toNat * 9)).block, (ad320.add ((x6_3).toNat * 9)).off + 1, none⟩ = some (.int .i64 ((rd_T33 l0_7 x6_3).f1)) ∧ w'.cell? ⟨(ad320.add ((x6_3).toNat * 9)).block, (ad320.add ((x6_3).toNat * 9)).off + 2, none⟩ = some (.bool ((rd_T33 l0_7 x6_3).f2)) ∧ w'.cell? ⟨(ad320.add ((x6_3).toNat * 9)).block, (ad320.add ((x6_3).toNat * 9)).off + 3, none⟩ = some (.bool ((rd_T33 l0_7 x6_3).f3)) ∧ w'.cell? ⟨(ad320.add ((x6_3).toNat * 9)).block, (ad320.add ((x6_3).toNat * 9)).off + 4, none⟩ = some (.slice A320_4 ((rd_T33 l0_7 x6_3).f4).length c320_4) ∧ w'.cell? ⟨(ad320.add ((x6_3).toNat * 9)).block, (ad320.add ((x6_3).toNat * 9)).off + 5, none⟩ = some (.slice A320_5 ((rd_T33 l0_7 x6_3).f5).length c320_5) ∧ w'.cell? ⟨(ad320.add ((x6_3).toNat * 9)).block, (ad320.add ((x6_3).toNat * 9)).off + 6, none⟩ = some (.slice A320_6 ((rd_T33 l0_7 x6_3).f6).length c320_6) ∧ w'.cell? ⟨(ad320.add ((x6_3).toNat * 9)).block, (ad320.add ((x6_3).toNat * 9)).off + 7, none⟩ = some (.slice A320_7 ((rd_T33 l0_7 x6_3).f7).length c320_7) ∧ w'.cell? ⟨(ad320.add ((x6_3).toNat * 9)).block, (ad320.add ((x6_3).toNat * 9)).off + 8, none⟩ = some (.int .i64 ((rd_T33 l0_7 x6_3).f8)) ∧ w'.cell? (ad321.add ((x6_3).toNat * 9)) = some (.int .i64 ((rd_T33 l1_7 x6_3).f0)) ∧ w'.cell? ⟨(ad321.add ((x6_3).toNat * 9)).block, (ad321.add ((x6_3).toNat * 9)).off + 1, none⟩ = some (.int .i64 ((rd_T33 l1_7 x6_3).f1)) ∧ w'.cell? ⟨(ad321.add ((x6_3).toNat * 9)).block, (ad321.add ((x6_3).toNat * 9)).off + 2, none⟩ = some (.bool ((rd_T33 l1_7 x6_3).f2)) ∧ w'.cell? ⟨(ad321.add ((x6_3).toNat * 9)).block, (ad321.add ((x6_3).toNat * 9)).off + 3, none⟩ = some (.bool ((rd_T33 l1_7 x6_3).f3)) ∧ w'.cell? ⟨(ad321.add ((x6_3).toNat * 9)).block, (ad321.add ((x6_3).toNat * 9)).off + 4, none⟩ = some (.slice A321_4 ((rd_T33 l1_7 x6_3).f4).length c321_4) ∧ w'.cell? ⟨(ad321.add ((x6_3).toNat * 9)).block, (ad321.add ((x6_3).toNat * 9)).off + 5, none⟩ = some (.slice A321_5 ((rd_T33 l1_7 x6_3).f5).length c321_5) ∧ w'.cell? ⟨(ad321.add ((x6_3).toNat * 9)).block, (ad321.add ((x6_3).toNat * 9)).off + 6, none⟩ = some (.slice A321_6 ((rd_T33 l1_7 x6_3).f6).length c321_6) ∧ w'.cell? ⟨(ad321.add ((x6_3).toNat * 9)).block, (ad321.add ((x6_3).toNat * 9)).off + 7, none⟩ = some (.slice A321_7 ((rd_T33 l1_7 x6_3).f7).length c321_7) ∧ w'.cell? ⟨(ad321.add ((x6_3).toNat * 9)).block, (ad321.add ((x6_3).toNat * 9)).off + 8, none⟩ = some (.int .i64 ((rd_T33 l1_7 x6_3).f8))) (ds := []) (bz 12 0) (by kernel_rfl) rfl rfl ⟨(yG BK311.out 0).trans rfl, (yG BK311.out 1).trans rfl, (yG BK311.out 2).trans rfl, (yG BK311.out 3).trans rfl, (yG BK311.out 4).trans rfl, (yG BK311.out 5).trans rfl, (yG BK311.out 6).trans rfl, (yG BK311.out 7).trans rfl, (yG BK311.out 8).trans rfl, (yG BK312.out 0).trans rfl, (yG BK312.out 1).trans rfl, (yG BK312.out 2).trans rfl, (yG BK312.out 3).trans rfl, (yG BK312.out 4).trans rfl, (yG BK312.out 5).trans rfl, (yG BK312.out 6).trans rfl, (yG BK312.out 7).trans rfl, (yG BK312.out 8).trans rfl, ((HB.out.cell (zQ w _ hw320_0)).trans hw320_0), ((HB.out.cell (zQ w _ hw320_1)).trans hw320_1), ((HB.out.cell (zQ w _ hw320_2)).trans hw320_2), ((HB.out.cell (zQ w _ hw320_3)).trans hw320_3), ((HB.out.cell (zQ w _ hw320_4)).trans hw320_4), ((HB.out.cell (zQ w _ hw320_5)).trans hw320_5), ((HB.out.cell (zQ w _ hw320_6)).trans hw320_6), ((HB.out.cell (zQ w _ hw320_7)).trans hw320_7), ((HB.out.cell (zQ w _ hw320_8)).trans hw320_8), ((HB.out.cell (zQ w _ hw321_0)).trans hw321_0), ((HB.out.cell (zQ w _ hw321_1)).trans hw321_1), ((HB.out.cell (zQ w _ hw321_2)).trans hw321_2), ((HB.out.cell (zQ w _ hw321_3)).trans hw321_3), ((HB.out.cell (zQ w _ hw321_4)).trans hw321_4), ((HB.out.cell (zQ w _ hw321_5)).trans hw321_5), ((HB.out.cell (zQ w _ hw321_6)).trans hw321_6), ((HB.out.cell (zQ w _ hw321_7)).trans hw321_7), ((HB.out.cell (zQ w _ hw321_8)).trans hw321_8)⟩ (fun hHeld => ?_); refine with_tabW spec_SameType.tab11 spec_SameType.bits11 (fun HT_ HW_ => ?_)
             generalize wr.drew = w68 at BK311 BK312 HB HR320_4 HR320_5 HR320_6 HR320_7 HR321_4 HR321_5 HR321_6 HR321_7 hx320_0 hx320_1 hx320_2 hx320_3 hx320_4 hx320_5 hx320_6 hx320_7 hx320_8 hx321_0 hx321_1 hx321_2 hx321_3 hx321_4 hx321_5 hx321_6 hx321_7 hx321_8 hHeld ⊢
             refine qA 0 116 (bz 12 1) HT_ ?_
             refine qA 2 118 (bz 12 5) HT_ ?_
             refine qA 5 121 (bz 12 37) HT_ ?_
             refine qA 7 123 (bz 12 165) HT_ ?_
             refine qC 1 117 (bz 12 167) HT_ HW_ hHeld ?_ (hy := by rintro w' ⟨s0, s1, s2, s3, s4, s5, s6, s7, s8, s9, s10, s11, s12, s13, s14, s15, s16, s17, s18, s19, s20, s21, s22, s23, s24, s25, s26, s27, s28, s29, s30, s31, s32, s33, s34, s35⟩; go_simp; with_reducible rfl)
             refine qA 3 119 (bz 12 175) HT_ ?_
             refine qC 4 120 (bz 12 191) HT_ HW_ hHeld ?_ (hy := by rintro w' ⟨s0, s1, s2, s3, s4, s5, s6, s7, s8, s9, s10, s11, s12, s13, s14, s15, s16, s17, s18, s19, s20, s21, s22, s23, s24, s25, s26, s27, s28, s29, s30, s31, s32, s33, s34, s35⟩; go_simp; with_reducible rfl)
             refine qC 6 122 (bz 12 255) HT_ HW_ hHeld ?_ (hy := by rintro w' ⟨s0, s1, s2, s3, s4, s5, s6, s7, s8, s9, s10, s11, s12, s13, s14, s15, s16, s17, s18, s19, s20, s21, s22, s23, s24, s25, s26, s27, s28, s29, s30, s31, s32, s33, s34, s35⟩; go_simp; with_reducible rfl)
             refine qA 8 124 (bz 12 511) HT_ ?_
             refine qC 9 125 (bz 12 1023) HT_ HW_ hHeld ?_ (hy := by rintro w' ⟨s0, s1, s2, s3, s4, s5, s6, s7, s8, s9, s10, s11, s12, s13, s14, s15, s16, s17, s18, s19, s20, s21, s22, s23, s24, s25, s26, s27, s28, s29, s30, s31, s32, s33, s34, s35⟩; go_simp; with_reducible rfl)
             refine one_ (i := 10) (N := some 126) (bz 12 2047) rfl rfl (one_of HT_.out (by kernel_rfl)) (by decide) (fun K hK => ?_)
             refine goes_ Try.func8 (by kernel_rfl) rfl #[.agg #[.int .i64 ((rd_T33 l0_7 x6_3).f0), .int .i64 ((rd_T33 l0_7 x6_3).f1), .bool ((rd_T33 l0_7 x6_3).f2), .bool ((rd_T33 l0_7 x6_3).f3), .slice A320_4 ((rd_T33 l0_7 x6_3).f4).length c320_4, .slice A320_5 ((rd_T33 l0_7 x6_3).f5).length c320_5, .slice A320_6 ((rd_T33 l0_7 x6_3).f6).length c320_6, .slice A320_7 ((rd_T33 l0_7 x6_3).f7).length c320_7, .int .i64 ((rd_T33 l0_7 x6_3).f8)], .agg #[.int .i64 ((rd_T33 l1_7 x6_3).f0), .int .i64 ((rd_T33 l1_7 x6_3).f1), .bool ((rd_T33 l1_7 x6_3).f2), .bool ((rd_T33 l1_7 x6_3).f3), .slice A321_4 ((rd_T33 l1_7 x6_3).f4).length c321_4, .slice A321_5 ((rd_T33 l1_7 x6_3).f5).length c321_5, .slice A321_6 ((rd_T33 l1_7 x6_3).f6).length c321_6, .slice A321_7 ((rd_T33 l1_7 x6_3).f7).length c321_7, .int .i64 ((rd_T33 l1_7 x6_3).f8)]] (by rfl) rfl rfl (by (try simp only [zK, zL, zM]); first | done | rfl | (simp only [zN, zO]; rfl)) ?_
             with_reducible refine (ih k3 (by have := HJ2.out; have := HK2.out; have := HK3.out; omega) ((rd_T33 l0_7 x6_3).f0) ((rd_T33 l0_7 x6_3).f1) ((rd_T33 l0_7 x6_3).f2) ((rd_T33 l0_7 x6_3).f3) _ _ ((rd_T33 l0_7 x6_3).f4) _ _ ((rd_T33 l0_7 x6_3).f5) _ _ ((rd_T33 l0_7 x6_3).f6) _ _ ((rd_T33 l0_7 x6_3).f7) ((rd_T33 l0_7 x6_3).f8) ((rd_T33 l1_7 x6_3).f0) ((rd_T33 l1_7 x6_3).f1) ((rd_T33 l1_7 x6_3).f2) ((rd_T33 l1_7 x6_3).f3) _ _ ((rd_T33 l1_7 x6_3).f4) _ _ ((rd_T33 l1_7 x6_3).f5) _ _ ((rd_T33 l1_7 x6_3).f6) _ _ ((rd_T33 l1_7 x6_3).f7) ((rd_T33 l1_7 x6_3).f8) false _ ?side1 ?side2 ?side3 ?side4 ?side5 ?side6 ?side7 ?side8 ?side9 ?side10 ?side11 ?side12 ?side13 ?side14 ?side15 ?side16 A60.out).mono ?_
             (case side1 => exact kV (yY HR320_4.out HB.out))
             (case side2 => exact HC320_4.out)
             (case side3 => exact kV (yY HR320_5.out HB.out))
             (case side4 => exact HC320_5.out)
             (case side5 => exact kV (yY HR320_6.out HB.out))
             (case side6 => exact HC320_6.out)
             (case side7 => exact kV (yY HR320_7.out HB.out))
             (case side8 => exact HC320_7.out)
             (case side9 => exact kV (yY HR321_4.out HB.out))
             (case side10 => exact HC321_4.out)
             (case side11 => exact kV (yY HR321_5.out HB.out))
             (case side12 => exact HC321_5.out)
             (case side13 => exact kV (yY HR321_6.out HB.out))
             (case side14 => exact HC321_6.out)
             (case side15 => exact kV (yY HR321_7.out HB.out))
             (case side16 => exact HC321_7.out)
             rintro e w69 ⟨rfl, hb⟩
             refine ⟨_, rfl, ?_⟩
             have n0_ := yD (zB (kN BK311) hb)
             have n1_ := yD (zB (kN BK312) hb)
             have n2_ := yD (zC (kB HB) hb)
             clear BK311 BK312 HB; have BK311 := n0_; have BK312 := n1_; have HB := n2_; clear n0_ n1_ n2_; (try clear hb); (try clear hb2); (try clear hk); (try clear hi)
             refine hK.out _ _ ⟨(yG BK311.out 0).trans rfl, (yG BK311.out 1).trans rfl, (yG BK311.out 2).trans rfl, (yG BK311.out 3).trans rfl, (yG BK311.out 4).trans rfl, (yG BK311.out 5).trans rfl, (yG BK311.out 6).trans rfl, (yG BK311.out 7).trans rfl, (yG BK311.out 8).trans rfl, (yG BK312.out 0).trans rfl, (yG BK312.out 1).trans rfl, (yG BK312.out 2).trans rfl, (yG BK312.out 3).trans rfl, (yG BK312.out 4).trans rfl, (yG BK312.out 5).trans rfl, (yG BK312.out 6).trans rfl, (yG BK312.out 7).trans rfl, (yG BK312.out 8).trans rfl, ((HB.out.cell (zQ w _ hw320_0)).trans hw320_0), ((HB.out.cell (zQ w _ hw320_1)).trans hw320_1), ((HB.out.cell (zQ w _ hw320_2)).trans hw320_2), ((HB.out.cell (zQ w _ hw320_3)).trans hw320_3), ((HB.out.cell (zQ w _ hw320_4)).trans hw320_4), ((HB.out.cell (zQ w _ hw320_5)).trans hw320_5), ((HB.out.cell (zQ w _ hw320_6)).trans hw320_6), ((HB.out.cell (zQ w _ hw320_7)).trans hw320_7), ((HB.out.cell (zQ w _ hw320_8)).trans hw320_8), ((HB.out.cell (zQ w _ hw321_0)).trans hw321_0), ((HB.out.cell (zQ w _ hw321_1)).trans hw321_1), ((HB.out.cell (zQ w _ hw321_2)).trans hw321_2), ((HB.out.cell (zQ w _ hw321_3)).trans hw321_3), ((HB.out.cell (zQ w _ hw321_4)).trans hw321_4), ((HB.out.cell (zQ w _ hw321_5)).trans hw321_5), ((HB.out.cell (zQ w _ hw321_6)).trans hw321_6), ((HB.out.cell (zQ w _ hw321_7)).trans hw321_7), ((HB.out.cell (zQ w _ hw321_8)).trans hw321_8)⟩ (fun hHeld => ?_)
             clear hK K
             refine norm_ (a' := ?_) ?_ ?_
             rotate_left
             · show Act.put _ (some 126) _ = _
               simp only [Act.put, zH, zI, zJ, i64_w, i32_w]
               rfl
             refine qA 11 127 (bz 12 4095) HT_ ?_
             refine done_ (done_of HT_.out (by kernel_rfl)) ?_
             try go_wp2
             go_ret
             exact ⟨by first | rfl | (simp <;> rfl) | (simp [*] <;> rfl), kR0 HB⟩
           · rw [if_neg c59] at H
             exact absurd H (by simp)
          · rw [if_neg c58] at H
            exact absurd H (by simp)
         ·
          rw [if_neg c57] at H
          have c57b0 : decide (x6_3 < (l0_7.length : Int)) = false := zS c57; clear c57
          obtain ⟨t323, A700, H⟩ := zW_ H
          replace H : (if t323 = true then ((spec_l02Ints.f k3 l0_5 l1_5).bind fun t324 => (some t324)) else (some false)) = some r := H
          have A70 := yD A700
          clear A700
          by_cases c71 : t323 = true
          · subst c71
            replace H : ((spec_l02Ints.f k3 l0_5 l1_5).bind fun t324 => (some t324)) = some r := (by rw [if_pos rfl] at H; exact H)
            obtain ⟨t324, A720, H⟩ := zW_ H
            replace H : (some t324) = some r := H
            have A72 := yD A720
            clear A720; obtain rfl := Option.some.inj H; have hnb73 := NB311_312.out; have hnc73 := NB312_311.out
            obtain ⟨hcz74_0, hcz74_1, hcz74_2, hcz74_3, hcz74_4, hcz74_5, hcz74_6, hcz74_7, hcz74_8⟩ := cz9 BK311.out
            obtain ⟨hfz74_0, hfz74_1, hfz74_2, hfz74_3, hfz74_4, hfz74_5, hfz74_6, hfz74_7, hfz74_8⟩ := fz9 BK311.out
            obtain ⟨hcz75_0, hcz75_1, hcz75_2, hcz75_3, hcz75_4, hcz75_5, hcz75_6, hcz75_7, hcz75_8⟩ := cz9 BK312.out
            obtain ⟨hfz75_0, hfz75_1, hfz75_2, hfz75_3, hfz75_4, hfz75_5, hfz75_6, hfz75_7, hfz75_8⟩ := fz9 BK312.out
            go_wp2_with (first | ((with_reducible refine gate_callee (f := 33) rfl ?_); refine gL 132 Try.func33 #[.slice A0_4 l0_4.length c0_4, .slice A1_4 l1_4.length c1_4] ?_; (with_reducible refine (spec_l02Texts.calls k3 _ _ l0_4 _ _ l1_4 true _ ?side1 ?side2 ?side3 ?side4 A70.out).mono ?_); (case side1 => exact kV (yY HR0_4.out HB.out)); (case side2 => exact HC0_4.out); (case side3 => exact kV (yY HR1_4.out HB.out)); (case side4 => exact HC1_4.out); rintro e w' ⟨rfl, ⟨nd, rfl⟩⟩; refine ⟨_, rfl, ?_⟩) | (go_at_call 34; (with_reducible refine (spec_l02Ints.calls k3 _ _ l0_5 _ _ l1_5 t324 _ ?side1 ?side2 ?side3 ?side4 A72.out).mono ?_); (case side1 => repeat (first | exact (yY HR0_5.out (kB HB)) | (with_reducible first | refine yV ?_ _ | refine yW ?_ _ | refine yX ?_))); (case side2 => exact HC0_5.out); (case side3 => repeat (first | exact (yY HR1_5.out (kB HB)) | (with_reducible first | refine yV ?_ _ | refine yW ?_ _ | refine yX ?_))); (case side4 => exact HC1_5.out); rintro e w' ⟨rfl, ⟨nd, rfl⟩⟩))
            go_ret
            exact ⟨by first | rfl | (simp <;> rfl) | (simp [*] <;> rfl), kR0 HB⟩
          · replace c71 := Bool.eq_false_iff.mpr c71
            subst c71
            replace H : (some false) = some r := (by rw [if_neg (show ¬ (false = true) by decide)] at H; exact H); obtain rfl := Option.some.inj H; have hnb76 := NB311_312.out; have hnc76 := NB312_311.out
            obtain ⟨hcz77_0, hcz77_1, hcz77_2, hcz77_3, hcz77_4, hcz77_5, hcz77_6, hcz77_7, hcz77_8⟩ := cz9 BK311.out
            obtain ⟨hfz77_0, hfz77_1, hfz77_2, hfz77_3, hfz77_4, hfz77_5, hfz77_6, hfz77_7, hfz77_8⟩ := fz9 BK311.out
            obtain ⟨hcz78_0, hcz78_1, hcz78_2, hcz78_3, hcz78_4, hcz78_5, hcz78_6, hcz78_7, hcz78_8⟩ := cz9 BK312.out
            obtain ⟨hfz78_0, hfz78_1, hfz78_2, hfz78_3, hfz78_4, hfz78_5, hfz78_6, hfz78_7, hfz78_8⟩ := fz9 BK312.out
            go_wp2_with (first | ((with_reducible refine gate_callee (f := 33) rfl ?_); refine gL 132 Try.func33 #[.slice A0_4 l0_4.length c0_4, .slice A1_4 l1_4.length c1_4] ?_; (with_reducible refine (spec_l02Texts.calls k3 _ _ l0_4 _ _ l1_4 false _ ?side1 ?side2 ?side3 ?side4 A70.out).mono ?_); (case side1 => exact kV (yY HR0_4.out HB.out)); (case side2 => exact HC0_4.out); (case side3 => exact kV (yY HR1_4.out HB.out)); (case side4 => exact HC1_4.out); rintro e w' ⟨rfl, ⟨nd, rfl⟩⟩; refine ⟨_, rfl, ?_⟩))
            go_ret
            exact ⟨by first | rfl | (simp <;> rfl) | (simp [*] <;> rfl), kR0 HB⟩

end Go.Proofs.Ytfblodggimjoaaa.PFnExactSameType
