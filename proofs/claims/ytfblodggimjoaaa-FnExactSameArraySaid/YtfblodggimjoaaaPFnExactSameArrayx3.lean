/- Each Go function here comes to what the plain function of its name says, where that says something. Made by a program of this session, over the print. -/
import Derived.Test.YtfblodggimjoaaaPFnExactSameArrayx0
import Derived.Test.YtfblodggimjoaaaPFnExactSameArrayx2
namespace Go.Proofs.Ytfblodggimjoaaa.PFnExactSameArray
open Go.RowKit Go.Proofs.YtfblodggimjoaaaW.PrintWords Go.Proofs.YtfblodggimjoaaaW.PrintLast Go.Proofs.YtfblodggimjoaaaW.PrintMore
attribute [local go_sem] max2_int min2_int max_two min_two max_three min_three max_four min_four   -- for this text's walks alone
set_option linter.unusedVariables false
set_option linter.unusedSimpArgs false

theorem kCx3_ {w w1 : World} {q : Addr} {u : Value} (hb : Aside0 (Below w.heap.size w w1)) (h : w.cell? q = some u) : w1.cell? q = some u := (hb.out.cell (World.block_lt_of_cell? w _ h)).trans h

/-! ### spec_SameType: function 8 -/
mutual
def spec_SameType.j0 : Nat → Bool → Int → Int → Bool → Bool → List ByteArray → List Int → List (S64) → List (S33) → Int → Int → Int → Bool → Bool → List ByteArray → List Int → List (S64) → List (S33) → Int → Option (Bool)
 | 0, _, _, _, _, _, _, _, _, _, _, _, _, _, _, _, _, _, _, _ => none
 | k + 1, x57, x338000, x338001, x338002, x338003, x338004, x338005, x338006, x338007, x338008, x339000, x339001, x339002, x339003, x339004, x339005, x339006, x339007, x339008 => if x57 = true then (some false) else (spec_SameType.l0 k 0 x338000 x338001 x338002 x338003 x338004 x338005 x338006 x338007 x338008 x339000 x339001 x339002 x339003 x339004 x339005 x339006 x339007 x339008)
def spec_SameType.l0 : Nat → Int → Int → Int → Bool → Bool → List ByteArray → List Int → List (S64) → List (S33) → Int → Int → Int → Bool → Bool → List ByteArray → List Int → List (S64) → List (S33) → Int → Option (Bool)
 | 0, _, _, _, _, _, _, _, _, _, _, _, _, _, _, _, _, _, _, _ => none
 | k + 1, x5, x338000, x338001, x338002, x338003, x338004, x338005, x338006, x338007, x338008, x339000, x339001, x339002, x339003, x339004, x339005, x339006, x339007, x339008 => if x5 < (x338006.length : Int) then (if 0 ≤ x5 then (if x5 < (x339006.length : Int) then (if ((rd_T64 x338006 x5).f0).toList = ((rd_T64 x339006 x5).f0).toList then (if ((rd_T64 x338006 x5).f1) = ((rd_T64 x339006 x5).f1) then ((spec_SameType.f k ((rd_T64 x338006 x5).f2.f0) ((rd_T64 x338006 x5).f2.f1) ((rd_T64 x338006 x5).f2.f2) ((rd_T64 x338006 x5).f2.f3) ((rd_T64 x338006 x5).f2.f4) ((rd_T64 x338006 x5).f2.f5) ((rd_T64 x338006 x5).f2.f6) ((rd_T64 x338006 x5).f2.f7) ((rd_T64 x338006 x5).f2.f8) ((rd_T64 x339006 x5).f2.f0) ((rd_T64 x339006 x5).f2.f1) ((rd_T64 x339006 x5).f2.f2) ((rd_T64 x339006 x5).f2.f3) ((rd_T64 x339006 x5).f2.f4) ((rd_T64 x339006 x5).f2.f5) ((rd_T64 x339006 x5).f2.f6) ((rd_T64 x339006 x5).f2.f7) ((rd_T64 x339006 x5).f2.f8)).bind fun t345 => (if t345 = true then (spec_SameType.l0 k (wrap64 (x5 + 1)) x338000 x338001 x338002 x338003 x338004 x338005 x338006 x338007 x338008 x339000 x339001 x339002 x339003 x339004 x339005 x339006 x339007 x339008) else (some false))) else (some false)) else (some false)) else (none)) else (none)) else (spec_SameType.l1 k 0 x338000 x338001 x338002 x338003 x338004 x338005 x338006 x338007 x338008 x339000 x339001 x339002 x339003 x339004 x339005 x339006 x339007 x339008)
def spec_SameType.l1 : Nat → Int → Int → Int → Bool → Bool → List ByteArray → List Int → List (S64) → List (S33) → Int → Int → Int → Bool → Bool → List ByteArray → List Int → List (S64) → List (S33) → Int → Option (Bool)
 | 0, _, _, _, _, _, _, _, _, _, _, _, _, _, _, _, _, _, _, _ => none
 | k + 1, x6, x338000, x338001, x338002, x338003, x338004, x338005, x338006, x338007, x338008, x339000, x339001, x339002, x339003, x339004, x339005, x339006, x339007, x339008 => if x6 < (x338007.length : Int) then (if 0 ≤ x6 then (if x6 < (x339007.length : Int) then ((spec_SameType.f k ((rd_T33 x338007 x6).f0) ((rd_T33 x338007 x6).f1) ((rd_T33 x338007 x6).f2) ((rd_T33 x338007 x6).f3) ((rd_T33 x338007 x6).f4) ((rd_T33 x338007 x6).f5) ((rd_T33 x338007 x6).f6) ((rd_T33 x338007 x6).f7) ((rd_T33 x338007 x6).f8) ((rd_T33 x339007 x6).f0) ((rd_T33 x339007 x6).f1) ((rd_T33 x339007 x6).f2) ((rd_T33 x339007 x6).f3) ((rd_T33 x339007 x6).f4) ((rd_T33 x339007 x6).f5) ((rd_T33 x339007 x6).f6) ((rd_T33 x339007 x6).f7) ((rd_T33 x339007 x6).f8)).bind fun t348 => (if t348 = true then (spec_SameType.l1 k (wrap64 (x6 + 1)) x338000 x338001 x338002 x338003 x338004 x338005 x338006 x338007 x338008 x339000 x339001 x339002 x339003 x339004 x339005 x339006 x339007 x339008) else (some false))) else (none)) else (none)) else ((spec_l02Texts.f k x338004 x339004).bind fun t349 => (if t349 = true then ((spec_l02Ints.f k x338005 x339005).bind fun t350 => (some t350)) else (some false)))
def spec_SameType.f : Nat → Int → Int → Bool → Bool → List ByteArray → List Int → List (S64) → List (S33) → Int → Int → Int → Bool → Bool → List ByteArray → List Int → List (S64) → List (S33) → Int → Option (Bool)
 | 0, _, _, _, _, _, _, _, _, _, _, _, _, _, _, _, _, _, _ => none
 | k + 1, a0_0, a0_1, a0_2, a0_3, l0_4, l0_5, l0_6, l0_7, a0_8, a1_0, a1_1, a1_2, a1_3, l1_4, l1_5, l1_6, l1_7, a1_8 => if a0_0 = a1_0 then (if a0_1 = a1_1 then (if (a0_2 != a1_2) = true then (spec_SameType.j0 k true a0_0 a0_1 a0_2 a0_3 l0_4 l0_5 l0_6 l0_7 a0_8 a1_0 a1_1 a1_2 a1_3 l1_4 l1_5 l1_6 l1_7 a1_8) else (if (a0_3 != a1_3) = true then (spec_SameType.j0 k true a0_0 a0_1 a0_2 a0_3 l0_4 l0_5 l0_6 l0_7 a0_8 a1_0 a1_1 a1_2 a1_3 l1_4 l1_5 l1_6 l1_7 a1_8) else (if a0_8 = a1_8 then (if (l0_6.length : Int) = (l1_6.length : Int) then (spec_SameType.j0 k ((l0_7.length : Int) != (l1_7.length : Int)) a0_0 a0_1 a0_2 a0_3 l0_4 l0_5 l0_6 l0_7 a0_8 a1_0 a1_1 a1_2 a1_3 l1_4 l1_5 l1_6 l1_7 a1_8) else (spec_SameType.j0 k true a0_0 a0_1 a0_2 a0_3 l0_4 l0_5 l0_6 l0_7 a0_8 a1_0 a1_1 a1_2 a1_3 l1_4 l1_5 l1_6 l1_7 a1_8)) else (spec_SameType.j0 k true a0_0 a0_1 a0_2 a0_3 l0_4 l0_5 l0_6 l0_7 a0_8 a1_0 a1_1 a1_2 a1_3 l1_4 l1_5 l1_6 l1_7 a1_8)))) else (spec_SameType.j0 k true a0_0 a0_1 a0_2 a0_3 l0_4 l0_5 l0_6 l0_7 a0_8 a1_0 a1_1 a1_2 a1_3 l1_4 l1_5 l1_6 l1_7 a1_8)) else (spec_SameType.j0 k true a0_0 a0_1 a0_2 a0_3 l0_4 l0_5 l0_6 l0_7 a0_8 a1_0 a1_1 a1_2 a1_3 l1_4 l1_5 l1_6 l1_7 a1_8)
end
def spec_SameType.T6 : Bool × List (List Nat × List Nat) := (true, [([], []), ([0], [0]), ([], []), ([1, 2], [1, 2]), ([3], [3]), ([4], [4]), ([], []), ([6], [6]), ([], []), ([7, 8], [7, 8]), ([9], [9]), ([10], [10]), ([5, 11], [5, 11]), ([12], [12]), ([13], [13]), ([14, 13], [13, 14]), ([13], [13]), ([15, 16, 13], [13, 15, 16]), ([17, 13], [13, 17]), ([18, 13], [13, 18]), ([13], [13]), ([20, 13], [13, 20]), ([13], [13]), ([21, 22, 13], [13, 21, 22]), ([23, 13], [13, 23]), ([24, 13], [13, 24]), ([19, 25, 13], [13, 19, 25]), ([13, 26], [13, 26]), ([27, 13], [27]), ([28], [28]), ([29, 28], [28, 29]), ([28], [28]), ([30, 31, 28], [28, 30, 31]), ([32, 28], [28, 32]), ([33, 28], [28, 33]), ([28], [28]), ([35, 28], [28, 35]), ([28], [28]), ([36, 37, 28], [28, 36, 37]), ([38, 28], [28, 38]), ([39, 28], [28, 39]), ([34, 40, 28, 28], [28, 34, 40]), ([41, 28], [28, 41]), ([28, 42], [28, 42])])
def spec_SameType.B6 : List Nat := [0, 1, 0, 7, 15, 31, 0, 64, 0, 448, 960, 1984, 4095, 8191, 16383, 32767, 16383, 131071, 262143, 524287, 16383, 1064959, 16383, 7356415, 15745023, 32522239, 67108863, 134217727, 268435455, 536870911, 1073741823, 536870911, 4294967295, 8589934591, 17179869183, 536870911, 34896609279, 536870911, 241055039487, 515932946431, 1065688760319, 2199023255551, 4398046511103, 8796093022207]
theorem spec_SameType.tab6 : rtab .any (opsOf Try.f8 6) = spec_SameType.T6 := by kernel_rfl
theorem spec_SameType.bits6 : waitsOk spec_SameType.T6.2 spec_SameType.B6 = true := by kernel_rfl
def spec_SameType.T11 : Bool × List (List Nat × List Nat) := (true, [([], []), ([0], [0]), ([], []), ([1, 2], [1, 2]), ([3], [3]), ([], []), ([5], [5]), ([], []), ([6, 7], [6, 7]), ([8], [8]), ([4, 9], [4, 9]), ([10], [10])])
def spec_SameType.B11 : List Nat := [0, 1, 0, 7, 15, 0, 32, 0, 224, 480, 1023, 2047]
theorem spec_SameType.tab11 : rtab .any (opsOf Try.f8 11) = spec_SameType.T11 := by kernel_rfl
theorem spec_SameType.bits11 : waitsOk spec_SameType.T11.2 spec_SameType.B11 = true := by kernel_rfl
set_option maxHeartbeats 8000000 in
set_option maxRecDepth 100000 in
theorem spec_SameType.calls (k : Nat) : ∀ (a0_0 : Int) (a0_1 : Int) (a0_2 : Bool) (a0_3 : Bool) (A0_4 : Option Addr) (c0_4 : Nat) (l0_4 : List ByteArray) (A0_5 : Option Addr) (c0_5 : Nat) (l0_5 : List Int) (A0_6 : Option Addr) (c0_6 : Nat) (l0_6 : List (S64)) (A0_7 : Option Addr) (c0_7 : Nat) (l0_7 : List (S33)) (a0_8 : Int) (a1_0 : Int) (a1_1 : Int) (a1_2 : Bool) (a1_3 : Bool) (A1_4 : Option Addr) (c1_4 : Nat) (l1_4 : List ByteArray) (A1_5 : Option Addr) (c1_5 : Nat) (l1_5 : List Int) (A1_6 : Option Addr) (c1_6 : Nat) (l1_6 : List (S64)) (A1_7 : Option Addr) (c1_7 : Nat) (l1_7 : List (S33)) (a1_8 : Int) (r : Bool) (w : World) (hr0_4 : Kd.C Kd.string w A0_4 l0_4.length l0_4) (hc0_4 : l0_4.length ≤ c0_4) (hr0_5 : Kd.C (Kd.int .i64) w A0_5 l0_5.length l0_5) (hc0_5 : l0_5.length ≤ c0_5) (hr0_6 : Kd.C k64 w A0_6 l0_6.length l0_6) (hc0_6 : l0_6.length ≤ c0_6) (hr0_7 : Kd.C k33 w A0_7 l0_7.length l0_7) (hc0_7 : l0_7.length ≤ c0_7) (hr1_4 : Kd.C Kd.string w A1_4 l1_4.length l1_4) (hc1_4 : l1_4.length ≤ c1_4) (hr1_5 : Kd.C (Kd.int .i64) w A1_5 l1_5.length l1_5) (hc1_5 : l1_5.length ≤ c1_5) (hr1_6 : Kd.C k64 w A1_6 l1_6.length l1_6) (hc1_6 : l1_6.length ≤ c1_6) (hr1_7 : Kd.C k33 w A1_7 l1_7.length l1_7) (hc1_7 : l1_7.length ≤ c1_7) (h : spec_SameType.f k a0_0 a0_1 a0_2 a0_3 l0_4 l0_5 l0_6 l0_7 a0_8 a1_0 a1_1 a1_2 a1_3 l1_4 l1_5 l1_6 l1_7 a1_8 = some r),
 Calls Try.prog 8 #[.agg #[.int .i64 a0_0, .int .i64 a0_1, .bool a0_2, .bool a0_3, .slice A0_4 l0_4.length c0_4, .slice A0_5 l0_5.length c0_5, .slice A0_6 l0_6.length c0_6, .slice A0_7 l0_7.length c0_7, .int .i64 a0_8], .agg #[.int .i64 a1_0, .int .i64 a1_1, .bool a1_2, .bool a1_3, .slice A1_4 l1_4.length c1_4, .slice A1_5 l1_5.length c1_5, .slice A1_6 l1_6.length c1_6, .slice A1_7 l1_7.length c1_7, .int .i64 a1_8]] w fun e w' => e = .returned (.bool r) ∧ Below w.heap.size w w' := by
 induction k using Nat.strongRecOn with
 | _ k ih =>
 intro a0_0 a0_1 a0_2 a0_3 A0_4 c0_4 l0_4 A0_5 c0_5 l0_5 A0_6 c0_6 l0_6 A0_7 c0_7 l0_7 a0_8 a1_0 a1_1 a1_2 a1_3 A1_4 c1_4 l1_4 A1_5 c1_5 l1_5 A1_6 c1_6 l1_6 A1_7 c1_7 l1_7 a1_8 r w hr0_4 hc0_4 hr0_5 hc0_5 hr0_6 hc0_6 hr0_7 hc0_7 hr1_4 hc1_4 hr1_5 hc1_5 hr1_6 hc1_6 hr1_7 hc1_7 h
 cases k with
 | zero => exact absurd h (by simp [spec_SameType.f])
 | succ k =>
 simp only [spec_SameType.f] at h
 have hu33 := Try.underlying33
 have HR0_4 := yD hr0_4
 have HC0_4 := yD hc0_4
 clear hr0_4 hc0_4
 have HR0_5 := yD hr0_5
 have HC0_5 := yD hc0_5
 clear hr0_5 hc0_5
 have HR0_6 := yD hr0_6
 have HC0_6 := yD hc0_6
 clear hr0_6 hc0_6
 have HR0_7 := yD hr0_7
 have HC0_7 := yD hc0_7
 clear hr0_7 hc0_7
 have HR1_4 := yD hr1_4
 have HC1_4 := yD hc1_4
 clear hr1_4 hc1_4
 have HR1_5 := yD hr1_5
 have HC1_5 := yD hc1_5
 clear hr1_5 hc1_5
 have HR1_6 := yD hr1_6
 have HC1_6 := yD hc1_6
 clear hr1_6 hc1_6
 have HR1_7 := yD hr1_7
 have HC1_7 := yD hc1_7
 clear hr1_7 hc1_7
 have HB := yD (Below.refl w.heap.size w)
 have H : (if a0_0 = a1_0 then (if a0_1 = a1_1 then (if (a0_2 != a1_2) = true then (spec_SameType.j0 k true a0_0 a0_1 a0_2 a0_3 l0_4 l0_5 l0_6 l0_7 a0_8 a1_0 a1_1 a1_2 a1_3 l1_4 l1_5 l1_6 l1_7 a1_8) else (if (a0_3 != a1_3) = true then (spec_SameType.j0 k true a0_0 a0_1 a0_2 a0_3 l0_4 l0_5 l0_6 l0_7 a0_8 a1_0 a1_1 a1_2 a1_3 l1_4 l1_5 l1_6 l1_7 a1_8) else (if a0_8 = a1_8 then (if (l0_6.length : Int) = (l1_6.length : Int) then (spec_SameType.j0 k ((l0_7.length : Int) != (l1_7.length : Int)) a0_0 a0_1 a0_2 a0_3 l0_4 l0_5 l0_6 l0_7 a0_8 a1_0 a1_1 a1_2 a1_3 l1_4 l1_5 l1_6 l1_7 a1_8) else (spec_SameType.j0 k true a0_0 a0_1 a0_2 a0_3 l0_4 l0_5 l0_6 l0_7 a0_8 a1_0 a1_1 a1_2 a1_3 l1_4 l1_5 l1_6 l1_7 a1_8)) else (spec_SameType.j0 k true a0_0 a0_1 a0_2 a0_3 l0_4 l0_5 l0_6 l0_7 a0_8 a1_0 a1_1 a1_2 a1_3 l1_4 l1_5 l1_6 l1_7 a1_8)))) else (spec_SameType.j0 k true a0_0 a0_1 a0_2 a0_3 l0_4 l0_5 l0_6 l0_7 a0_8 a1_0 a1_1 a1_2 a1_3 l1_4 l1_5 l1_6 l1_7 a1_8)) else (spec_SameType.j0 k true a0_0 a0_1 a0_2 a0_3 l0_4 l0_5 l0_6 l0_7 a0_8 a1_0 a1_1 a1_2 a1_3 l1_4 l1_5 l1_6 l1_7 a1_8)) = some r := h
 clear h
 have HC3 := yD H
 clear H; go_enter Try.func8, Try.ntmps8
 go_upto_region 1 with (first | ((with_reducible refine gate_dst (N := 2) rfl ?_); (try (refine gate_guard (by rfl) ?_; dsimp only)); refine box_event ?hg (N := 2) ?hd (cs := #[.int .i64 a0_0, .int .i64 a0_1, .bool a0_2, .bool a0_3, .slice A0_4 l0_4.length c0_4, .slice A0_5 l0_5.length c0_5, .slice A0_6 l0_6.length c0_6, .slice A0_7 l0_7.length c0_7, .int .i64 a0_8]) (t := 33) ?hr ?_; (case hd => rfl); (case hg => rfl); (case hr => first | (go_simp; done) | (go_simp; rfl)); intro gb337 hg w4 hbox hb; have BK337 := yD (hbox); have GW337 := yD ((by rw [hg]; exact (below_size (kB HB)) : w.heap.size ≤ gb337)); have GE337 := yD ((by rw [hg]; exact (below_size (kB HB)) : w.heap.size ≤ gb337)); replace HB := yD (zC (kB HB) hb); clear hb hbox hg) | ((with_reducible refine gate_dst (N := 3) rfl ?_); (try (refine gate_guard (by rfl) ?_; dsimp only)); refine box_event ?hg (N := 3) ?hd (cs := #[.int .i64 a1_0, .int .i64 a1_1, .bool a1_2, .bool a1_3, .slice A1_4 l1_4.length c1_4, .slice A1_5 l1_5.length c1_5, .slice A1_6 l1_6.length c1_6, .slice A1_7 l1_7.length c1_7, .int .i64 a1_8]) (t := 33) ?hr ?_; (case hd => rfl); (case hg => rfl); (case hr => first | (go_simp; done) | (go_simp; rfl)); intro gb338 hg w5 hbox hb; have BK338 := yD (hbox); have GW338 := yD ((by rw [hg]; exact (below_size (kB HB)) : w.heap.size ≤ gb338)); have GE338 := yD ((by rw [hg]; exact (below_size (kB HB)) : w.heap.size ≤ gb338)); replace HB := yD (zC (kB HB) hb); have NB337_338 := yD ((by rw [hg]; exact Nat.ne_of_lt (blk_lt (kN BK337)) : gb337 ≠ gb338)); have NB338_337 := yD ((by rw [hg]; exact Nat.ne_of_gt (blk_lt (kN BK337)) : gb338 ≠ gb337)); replace BK337 := yD (zB (kN BK337) hb); clear hb hbox hg))
 (try simp only [Act.put, zH, zI, zJ])
 go_cut [57] (fun v57 wc => ∃ (kq : Nat) (x57_2 : Bool), v57 = .bool x57_2 ∧ Aside0 (spec_SameType.j0 kq x57_2 a0_0 a0_1 a0_2 a0_3 l0_4 l0_5 l0_6 l0_7 a0_8 a1_0 a1_1 a1_2 a1_3 l1_4 l1_5 l1_6 l1_7 a1_8 = some r) ∧ Aside0 (kq ≤ k) ∧ Aside0 (wc.heap[gb337]? = some (.cells #[.int .i64 a0_0, .int .i64 a0_1, .bool a0_2, .bool a0_3, (.slice A0_4 l0_4.length c0_4), (.slice A0_5 l0_5.length c0_5), (.slice A0_6 l0_6.length c0_6), (.slice A0_7 l0_7.length c0_7), .int .i64 a0_8] 33 (0, 0))) ∧ Aside0 (wc.heap[gb338]? = some (.cells #[.int .i64 a1_0, .int .i64 a1_1, .bool a1_2, .bool a1_3, (.slice A1_4 l1_4.length c1_4), (.slice A1_5 l1_5.length c1_5), (.slice A1_6 l1_6.length c1_6), (.slice A1_7 l1_7.length c1_7), .int .i64 a1_8] 33 (0, 0))) ∧ Aside0 (Below w.heap.size w wc))
 case first =>
  have H := HC3.out; clear HC3
  by_cases c6 : a0_0 = a1_0
  ·
   rw [if_pos c6] at H
   have c6b0 : (a0_0 == a1_0) = true := beq_iff_eq.mpr c6
   have c6b1 : (a0_0 != a1_0) = false := bne_eq_false_iff_eq.mpr c6
   clear c6
   (first | rw [c6b0] | (simp only [i64_w, i32_w]; rw [c6b0]) | (simp only [bne] at c6b0; rw [c6b0]) | skip)
   by_cases c7 : a0_1 = a1_1
   ·
    rw [if_pos c7] at H
    have c7b0 : (a0_1 == a1_1) = true := beq_iff_eq.mpr c7
    have c7b1 : (a0_1 != a1_1) = false := bne_eq_false_iff_eq.mpr c7
    clear c7
    by_cases c8 : (a0_2 != a1_2) = true
    ·
     rw [if_pos c8] at H
     have c8b0 : (a0_2 != a1_2) = true := c8
     (try (have c8b1 : decide (a0_2 = a1_2) = false := by simpa using c8))
     (try (have c8b2 : (a0_2 == a1_2) = false := by simpa using c8))
     (try (have c8b3 : ¬ (a0_2 = a1_2) := by simpa using c8))
     clear c8
     have H' := yD H
     clear H; have hnb9 := NB337_338.out; have hnc9 := NB338_337.out
     obtain ⟨hcz10_0, hcz10_1, hcz10_2, hcz10_3, hcz10_4, hcz10_5, hcz10_6, hcz10_7, hcz10_8⟩ := cz9 BK337.out
     obtain ⟨hfz10_0, hfz10_1, hfz10_2, hfz10_3, hfz10_4, hfz10_5, hfz10_6, hfz10_7, hfz10_8⟩ := fz9 BK337.out
     obtain ⟨hcz11_0, hcz11_1, hcz11_2, hcz11_3, hcz11_4, hcz11_5, hcz11_6, hcz11_7, hcz11_8⟩ := cz9 BK338.out
     obtain ⟨hfz11_0, hfz11_1, hfz11_2, hfz11_3, hfz11_4, hfz11_5, hfz11_6, hfz11_7, hfz11_8⟩ := fz9 BK338.out
     go_wp2
     go_meet
     case rel => exact ⟨_, (true), (by first | rfl | (simp; done) | (simp [*]; done)), H', ⟨by first | omega | exact Nat.le_refl _⟩, ⟨kM BK337⟩, ⟨kM BK338⟩, ⟨kR0 HB⟩⟩
    ·
     rw [if_neg c8] at H
     have c8b0 : (a0_2 != a1_2) = false := by simpa using c8
     (try (have c8b1 : decide (a0_2 = a1_2) = true := by simpa using c8))
     (try (have c8b2 : (a0_2 == a1_2) = true := by simpa using c8))
     clear c8
     by_cases c12 : (a0_3 != a1_3) = true
     ·
      rw [if_pos c12] at H
      have c12b0 : (a0_3 != a1_3) = true := c12
      (try (have c12b1 : decide (a0_3 = a1_3) = false := by simpa using c12))
      (try (have c12b2 : (a0_3 == a1_3) = false := by simpa using c12))
      (try (have c12b3 : ¬ (a0_3 = a1_3) := by simpa using c12))
      clear c12
      have H' := yD H
      clear H; have hnb13 := NB337_338.out; have hnc13 := NB338_337.out
      obtain ⟨hcz14_0, hcz14_1, hcz14_2, hcz14_3, hcz14_4, hcz14_5, hcz14_6, hcz14_7, hcz14_8⟩ := cz9 BK337.out
      obtain ⟨hfz14_0, hfz14_1, hfz14_2, hfz14_3, hfz14_4, hfz14_5, hfz14_6, hfz14_7, hfz14_8⟩ := fz9 BK337.out
      obtain ⟨hcz15_0, hcz15_1, hcz15_2, hcz15_3, hcz15_4, hcz15_5, hcz15_6, hcz15_7, hcz15_8⟩ := cz9 BK338.out
      obtain ⟨hfz15_0, hfz15_1, hfz15_2, hfz15_3, hfz15_4, hfz15_5, hfz15_6, hfz15_7, hfz15_8⟩ := fz9 BK338.out
      go_wp2
      go_meet
      case rel => exact ⟨_, (true), (by first | rfl | (simp; done) | (simp [*]; done)), H', ⟨by first | omega | exact Nat.le_refl _⟩, ⟨kM BK337⟩, ⟨kM BK338⟩, ⟨kR0 HB⟩⟩
     ·
      rw [if_neg c12] at H
      have c12b0 : (a0_3 != a1_3) = false := by simpa using c12
      (try (have c12b1 : decide (a0_3 = a1_3) = true := by simpa using c12))
      (try (have c12b2 : (a0_3 == a1_3) = true := by simpa using c12))
      clear c12
      by_cases c16 : a0_8 = a1_8
      ·
       rw [if_pos c16] at H
       have c16b0 : (a0_8 == a1_8) = true := beq_iff_eq.mpr c16
       have c16b1 : (a0_8 != a1_8) = false := bne_eq_false_iff_eq.mpr c16
       clear c16
       by_cases c17 : (l0_6.length : Int) = (l1_6.length : Int)
       ·
        rw [if_pos c17] at H
        have c17b0 : ((l0_6.length : Int) == (l1_6.length : Int)) = true := beq_iff_eq.mpr c17
        have c17b1 : ((l0_6.length : Int) != (l1_6.length : Int)) = false := bne_eq_false_iff_eq.mpr c17
        have c17b2 : (l0_6.length == l1_6.length) = true := by first | simpa using c17 | (simp at c17 ⊢; omega)
        clear c17
        have H' := yD H
        clear H; have hnb18 := NB337_338.out; have hnc18 := NB338_337.out
        obtain ⟨hcz19_0, hcz19_1, hcz19_2, hcz19_3, hcz19_4, hcz19_5, hcz19_6, hcz19_7, hcz19_8⟩ := cz9 BK337.out
        obtain ⟨hfz19_0, hfz19_1, hfz19_2, hfz19_3, hfz19_4, hfz19_5, hfz19_6, hfz19_7, hfz19_8⟩ := fz9 BK337.out
        obtain ⟨hcz20_0, hcz20_1, hcz20_2, hcz20_3, hcz20_4, hcz20_5, hcz20_6, hcz20_7, hcz20_8⟩ := cz9 BK338.out
        obtain ⟨hfz20_0, hfz20_1, hfz20_2, hfz20_3, hfz20_4, hfz20_5, hfz20_6, hfz20_7, hfz20_8⟩ := fz9 BK338.out
        go_wp2
        go_meet
        case rel => exact ⟨_, (((l0_7.length : Int) != (l1_7.length : Int))), (by first | rfl | (simp; done) | (simp [*]; done)), H', ⟨by first | omega | exact Nat.le_refl _⟩, ⟨kM BK337⟩, ⟨kM BK338⟩, ⟨kR0 HB⟩⟩
       ·
        rw [if_neg c17] at H
        have c17b0 : ((l0_6.length : Int) == (l1_6.length : Int)) = false := beq_eq_false_iff_ne.mpr c17
        have c17b1 : ((l0_6.length : Int) != (l1_6.length : Int)) = true := bne_iff_ne.mpr c17
        have c17b2 : (l0_6.length == l1_6.length) = false := by first | simpa using c17 | (simp at c17 ⊢; omega)
        have H' := yD H
        clear H; have hnb21 := NB337_338.out; have hnc21 := NB338_337.out
        obtain ⟨hcz22_0, hcz22_1, hcz22_2, hcz22_3, hcz22_4, hcz22_5, hcz22_6, hcz22_7, hcz22_8⟩ := cz9 BK337.out
        obtain ⟨hfz22_0, hfz22_1, hfz22_2, hfz22_3, hfz22_4, hfz22_5, hfz22_6, hfz22_7, hfz22_8⟩ := fz9 BK337.out
        obtain ⟨hcz23_0, hcz23_1, hcz23_2, hcz23_3, hcz23_4, hcz23_5, hcz23_6, hcz23_7, hcz23_8⟩ := cz9 BK338.out
        obtain ⟨hfz23_0, hfz23_1, hfz23_2, hfz23_3, hfz23_4, hfz23_5, hfz23_6, hfz23_7, hfz23_8⟩ := fz9 BK338.out
        go_wp2
        go_meet
        case rel => exact ⟨_, (true), (by first | rfl | (simp; done) | (simp [*]; done)), H', ⟨by first | omega | exact Nat.le_refl _⟩, ⟨kM BK337⟩, ⟨kM BK338⟩, ⟨kR0 HB⟩⟩
      ·
       rw [if_neg c16] at H
       have c16b0 : (a0_8 == a1_8) = false := beq_eq_false_iff_ne.mpr c16
       have c16b1 : (a0_8 != a1_8) = true := bne_iff_ne.mpr c16
       have H' := yD H
       clear H; have hnb24 := NB337_338.out; have hnc24 := NB338_337.out
       obtain ⟨hcz25_0, hcz25_1, hcz25_2, hcz25_3, hcz25_4, hcz25_5, hcz25_6, hcz25_7, hcz25_8⟩ := cz9 BK337.out
       obtain ⟨hfz25_0, hfz25_1, hfz25_2, hfz25_3, hfz25_4, hfz25_5, hfz25_6, hfz25_7, hfz25_8⟩ := fz9 BK337.out
       obtain ⟨hcz26_0, hcz26_1, hcz26_2, hcz26_3, hcz26_4, hcz26_5, hcz26_6, hcz26_7, hcz26_8⟩ := cz9 BK338.out
       obtain ⟨hfz26_0, hfz26_1, hfz26_2, hfz26_3, hfz26_4, hfz26_5, hfz26_6, hfz26_7, hfz26_8⟩ := fz9 BK338.out
       go_wp2
       go_meet
       case rel => exact ⟨_, (true), (by first | rfl | (simp; done) | (simp [*]; done)), H', ⟨by first | omega | exact Nat.le_refl _⟩, ⟨kM BK337⟩, ⟨kM BK338⟩, ⟨kR0 HB⟩⟩
   ·
    rw [if_neg c7] at H
    have c7b0 : (a0_1 == a1_1) = false := beq_eq_false_iff_ne.mpr c7
    have c7b1 : (a0_1 != a1_1) = true := bne_iff_ne.mpr c7
    have H' := yD H
    clear H; have hnb27 := NB337_338.out; have hnc27 := NB338_337.out
    obtain ⟨hcz28_0, hcz28_1, hcz28_2, hcz28_3, hcz28_4, hcz28_5, hcz28_6, hcz28_7, hcz28_8⟩ := cz9 BK337.out
    obtain ⟨hfz28_0, hfz28_1, hfz28_2, hfz28_3, hfz28_4, hfz28_5, hfz28_6, hfz28_7, hfz28_8⟩ := fz9 BK337.out
    obtain ⟨hcz29_0, hcz29_1, hcz29_2, hcz29_3, hcz29_4, hcz29_5, hcz29_6, hcz29_7, hcz29_8⟩ := cz9 BK338.out
    obtain ⟨hfz29_0, hfz29_1, hfz29_2, hfz29_3, hfz29_4, hfz29_5, hfz29_6, hfz29_7, hfz29_8⟩ := fz9 BK338.out
    go_wp2
    go_meet
    case rel => exact ⟨_, (true), (by first | rfl | (simp; done) | (simp [*]; done)), H', ⟨by first | omega | exact Nat.le_refl _⟩, ⟨kM BK337⟩, ⟨kM BK338⟩, ⟨kR0 HB⟩⟩
  ·
   rw [if_neg c6] at H
   have c6b0 : (a0_0 == a1_0) = false := beq_eq_false_iff_ne.mpr c6
   have c6b1 : (a0_0 != a1_0) = true := bne_iff_ne.mpr c6
   (first | rw [c6b0] | (simp only [i64_w, i32_w]; rw [c6b0]) | (simp only [bne] at c6b0; rw [c6b0]) | skip)
   have H' := yD H
   clear H; have hnb30 := NB337_338.out; have hnc30 := NB338_337.out
   obtain ⟨hcz31_0, hcz31_1, hcz31_2, hcz31_3, hcz31_4, hcz31_5, hcz31_6, hcz31_7, hcz31_8⟩ := cz9 BK337.out
   obtain ⟨hfz31_0, hfz31_1, hfz31_2, hfz31_3, hfz31_4, hfz31_5, hfz31_6, hfz31_7, hfz31_8⟩ := fz9 BK337.out
   obtain ⟨hcz32_0, hcz32_1, hcz32_2, hcz32_3, hcz32_4, hcz32_5, hcz32_6, hcz32_7, hcz32_8⟩ := cz9 BK338.out
   obtain ⟨hfz32_0, hfz32_1, hfz32_2, hfz32_3, hfz32_4, hfz32_5, hfz32_6, hfz32_7, hfz32_8⟩ := fz9 BK338.out
   go_wp2
   go_meet
   case rel => exact ⟨_, (true), (by first | rfl | (simp; done) | (simp [*]; done)), H', ⟨by first | omega | exact Nat.le_refl _⟩, ⟨kM BK337⟩, ⟨kM BK338⟩, ⟨kR0 HB⟩⟩
 case rest =>
  clear HC3; try clear c6; try clear c6b0; try clear c6b1; try clear c7; try clear c7b0; try clear c7b1; try clear c8; try clear c8b0; try clear c8b1; try clear c8b2; try clear c12; try clear c12b0; try clear c12b1; try clear c12b2; try clear c16; try clear c16b0; try clear c16b1; try clear c17; try clear c17b0; try clear c17b1; try clear c17b2; try clear hcz10_0; try clear hcz10_1; try clear hcz10_2; try clear hcz10_3; try clear hcz10_4; try clear hcz10_5; try clear hcz10_6; try clear hcz10_7; try clear hcz10_8; try clear hcz11_0; try clear hcz11_1; try clear hcz11_2; try clear hcz11_3; try clear hcz11_4; try clear hcz11_5; try clear hcz11_6; try clear hcz11_7; try clear hcz11_8; try clear hcz14_0; try clear hcz14_1; try clear hcz14_2; try clear hcz14_3; try clear hcz14_4; try clear hcz14_5; try clear hcz14_6; try clear hcz14_7; try clear hcz14_8; try clear hcz15_0; try clear hcz15_1; try clear hcz15_2; try clear hcz15_3; try clear hcz15_4; try clear hcz15_5; try clear hcz15_6; try clear hcz15_7; try clear hcz15_8; try clear hcz19_0; try clear hcz19_1; try clear hcz19_2; try clear hcz19_3; try clear hcz19_4; try clear hcz19_5; try clear hcz19_6; try clear hcz19_7; try clear hcz19_8; try clear hcz20_0; try clear hcz20_1; try clear hcz20_2; try clear hcz20_3; try clear hcz20_4; try clear hcz20_5; try clear hcz20_6; try clear hcz20_7; try clear hcz20_8; try clear hcz22_0; try clear hcz22_1; try clear hcz22_2; try clear hcz22_3; try clear hcz22_4; try clear hcz22_5; try clear hcz22_6; try clear hcz22_7; try clear hcz22_8; try clear hcz23_0; try clear hcz23_1; try clear hcz23_2; try clear hcz23_3; try clear hcz23_4; try clear hcz23_5; try clear hcz23_6; try clear hcz23_7; try clear hcz23_8; try clear hcz25_0; try clear hcz25_1; try clear hcz25_2; try clear hcz25_3; try clear hcz25_4; try clear hcz25_5; try clear hcz25_6; try clear hcz25_7; try clear hcz25_8; try clear hcz26_0; try clear hcz26_1; try clear hcz26_2; try clear hcz26_3; try clear hcz26_4; try clear hcz26_5; try clear hcz26_6; try clear hcz26_7; try clear hcz26_8; try clear hcz28_0; try clear hcz28_1; try clear hcz28_2; try clear hcz28_3; try clear hcz28_4; try clear hcz28_5; try clear hcz28_6; try clear hcz28_7; try clear hcz28_8; try clear hcz29_0; try clear hcz29_1; try clear hcz29_2; try clear hcz29_3; try clear hcz29_4; try clear hcz29_5; try clear hcz29_6; try clear hcz29_7; try clear hcz29_8; try clear hcz31_0; try clear hcz31_1; try clear hcz31_2; try clear hcz31_3; try clear hcz31_4; try clear hcz31_5; try clear hcz31_6; try clear hcz31_7; try clear hcz31_8; try clear hcz32_0; try clear hcz32_1; try clear hcz32_2; try clear hcz32_3; try clear hcz32_4; try clear hcz32_5; try clear hcz32_6; try clear hcz32_7; try clear hcz32_8; try clear hfz10_0; try clear hfz10_1; try clear hfz10_2; try clear hfz10_3; try clear hfz10_4; try clear hfz10_5; try clear hfz10_6; try clear hfz10_7; try clear hfz10_8; try clear hfz11_0; try clear hfz11_1; try clear hfz11_2; try clear hfz11_3; try clear hfz11_4; try clear hfz11_5; try clear hfz11_6; try clear hfz11_7; try clear hfz11_8; try clear hfz14_0; try clear hfz14_1; try clear hfz14_2; try clear hfz14_3; try clear hfz14_4; try clear hfz14_5; try clear hfz14_6; try clear hfz14_7; try clear hfz14_8; try clear hfz15_0; try clear hfz15_1; try clear hfz15_2; try clear hfz15_3; try clear hfz15_4; try clear hfz15_5; try clear hfz15_6; try clear hfz15_7; try clear hfz15_8; try clear hfz19_0; try clear hfz19_1; try clear hfz19_2; try clear hfz19_3; try clear hfz19_4; try clear hfz19_5; try clear hfz19_6; try clear hfz19_7; try clear hfz19_8; try clear hfz20_0; try clear hfz20_1; try clear hfz20_2; try clear hfz20_3; try clear hfz20_4; try clear hfz20_5; try clear hfz20_6; try clear hfz20_7; try clear hfz20_8; try clear hfz22_0; try clear hfz22_1; try clear hfz22_2; try clear hfz22_3; try clear hfz22_4; try clear hfz22_5; try clear hfz22_6; try clear hfz22_7; try clear hfz22_8; try clear hfz23_0; try clear hfz23_1; try clear hfz23_2; try clear hfz23_3; try clear hfz23_4; try clear hfz23_5; try clear hfz23_6; try clear hfz23_7; try clear hfz23_8; try clear hfz25_0; try clear hfz25_1; try clear hfz25_2; try clear hfz25_3; try clear hfz25_4; try clear hfz25_5; try clear hfz25_6; try clear hfz25_7; try clear hfz25_8; try clear hfz26_0; try clear hfz26_1; try clear hfz26_2; try clear hfz26_3; try clear hfz26_4; try clear hfz26_5; try clear hfz26_6; try clear hfz26_7; try clear hfz26_8; try clear hfz28_0; try clear hfz28_1; try clear hfz28_2; try clear hfz28_3; try clear hfz28_4; try clear hfz28_5; try clear hfz28_6; try clear hfz28_7; try clear hfz28_8; try clear hfz29_0; try clear hfz29_1; try clear hfz29_2; try clear hfz29_3; try clear hfz29_4; try clear hfz29_5; try clear hfz29_6; try clear hfz29_7; try clear hfz29_8; try clear hfz31_0; try clear hfz31_1; try clear hfz31_2; try clear hfz31_3; try clear hfz31_4; try clear hfz31_5; try clear hfz31_6; try clear hfz31_7; try clear hfz31_8; try clear hfz32_0; try clear hfz32_1; try clear hfz32_2; try clear hfz32_3; try clear hfz32_4; try clear hfz32_5; try clear hfz32_6; try clear hfz32_7; try clear hfz32_8
  obtain ⟨kq, x57_2, rfl, HA, HJ2, BK337, BK338, HB⟩ := hcut
  cases kq with
  | zero => exact absurd HA.out (by simp [spec_SameType.j0])
  | succ kj2 =>
   have H := HA.out; clear HA
   simp only [spec_SameType.j0] at H
   by_cases c33 : x57_2 = true
   · subst c33
     replace H : (some false) = some r := (by rw [if_pos rfl] at H; exact H); obtain rfl := Option.some.inj H
     go_wp2
     go_ret
     exact ⟨by first | rfl | (simp <;> rfl) | (simp [*] <;> rfl), kR0 HB⟩
   ·
    replace c33 := Bool.eq_false_iff.mpr c33
    subst c33
    replace H : (spec_SameType.l0 kj2 0 a0_0 a0_1 a0_2 a0_3 l0_4 l0_5 l0_6 l0_7 a0_8 a1_0 a1_1 a1_2 a1_3 l1_4 l1_5 l1_6 l1_7 a1_8) = some r := (by rw [if_neg (show ¬ (false = true) by decide)] at H; exact H)
    have H' := yD H
    clear H
    go_wp2
    go_loopg [5] kj2 (fun kq v5 w' => ∃ (x5_2 : Int), v5 = .int .i64 x5_2 ∧ Aside0 (spec_SameType.l0 kq x5_2 a0_0 a0_1 a0_2 a0_3 l0_4 l0_5 l0_6 l0_7 a0_8 a1_0 a1_1 a1_2 a1_3 l1_4 l1_5 l1_6 l1_7 a1_8 = some r) ∧ Aside0 (kq ≤ kj2) ∧ Aside0 (w'.heap[gb337]? = some (.cells #[.int .i64 a0_0, .int .i64 a0_1, .bool a0_2, .bool a0_3, (.slice A0_4 l0_4.length c0_4), (.slice A0_5 l0_5.length c0_5), (.slice A0_6 l0_6.length c0_6), (.slice A0_7 l0_7.length c0_7), .int .i64 a0_8] 33 (0, 0))) ∧ Aside0 (w'.heap[gb338]? = some (.cells #[.int .i64 a1_0, .int .i64 a1_1, .bool a1_2, .bool a1_3, (.slice A1_4 l1_4.length c1_4), (.slice A1_5 l1_5.length c1_5), (.slice A1_6 l1_6.length c1_6), (.slice A1_7 l1_7.length c1_7), .int .i64 a1_8] 33 (0, 0))) ∧ Aside0 (Below w.heap.size w w'))
    case atStart => exact ⟨(0), (by first | rfl | (simp; done) | (simp [*]; done)), H', ⟨Nat.le_refl _⟩, ⟨kM BK337⟩, ⟨kM BK338⟩, ⟨kR0 HB⟩⟩
    case round =>
     clear H'
     try clear c1; try clear c6; try clear c6b0; try clear c6b1; try clear c7; try clear c7b0; try clear c7b1; try clear c8; try clear c8b0; try clear c8b1; try clear c8b2; try clear c12; try clear c12b0; try clear c12b1; try clear c12b2; try clear c16; try clear c16b0; try clear c16b1; try clear c17; try clear c17b0; try clear c17b1; try clear c17b2; try clear c33; try clear hcz10_0; try clear hcz10_1; try clear hcz10_2; try clear hcz10_3; try clear hcz10_4; try clear hcz10_5; try clear hcz10_6; try clear hcz10_7; try clear hcz10_8; try clear hcz11_0; try clear hcz11_1; try clear hcz11_2; try clear hcz11_3; try clear hcz11_4; try clear hcz11_5; try clear hcz11_6; try clear hcz11_7; try clear hcz11_8; try clear hcz14_0; try clear hcz14_1; try clear hcz14_2; try clear hcz14_3; try clear hcz14_4; try clear hcz14_5; try clear hcz14_6; try clear hcz14_7; try clear hcz14_8; try clear hcz15_0; try clear hcz15_1; try clear hcz15_2; try clear hcz15_3; try clear hcz15_4; try clear hcz15_5; try clear hcz15_6; try clear hcz15_7; try clear hcz15_8; try clear hcz19_0; try clear hcz19_1; try clear hcz19_2; try clear hcz19_3; try clear hcz19_4; try clear hcz19_5; try clear hcz19_6; try clear hcz19_7; try clear hcz19_8; try clear hcz20_0; try clear hcz20_1; try clear hcz20_2; try clear hcz20_3; try clear hcz20_4; try clear hcz20_5; try clear hcz20_6; try clear hcz20_7; try clear hcz20_8; try clear hcz22_0; try clear hcz22_1; try clear hcz22_2; try clear hcz22_3; try clear hcz22_4; try clear hcz22_5; try clear hcz22_6; try clear hcz22_7; try clear hcz22_8; try clear hcz23_0; try clear hcz23_1; try clear hcz23_2; try clear hcz23_3; try clear hcz23_4; try clear hcz23_5; try clear hcz23_6; try clear hcz23_7; try clear hcz23_8; try clear hcz25_0; try clear hcz25_1; try clear hcz25_2; try clear hcz25_3; try clear hcz25_4; try clear hcz25_5; try clear hcz25_6; try clear hcz25_7; try clear hcz25_8; try clear hcz26_0; try clear hcz26_1; try clear hcz26_2; try clear hcz26_3; try clear hcz26_4; try clear hcz26_5; try clear hcz26_6; try clear hcz26_7; try clear hcz26_8; try clear hcz28_0; try clear hcz28_1; try clear hcz28_2; try clear hcz28_3; try clear hcz28_4; try clear hcz28_5; try clear hcz28_6; try clear hcz28_7; try clear hcz28_8; try clear hcz29_0; try clear hcz29_1; try clear hcz29_2; try clear hcz29_3; try clear hcz29_4; try clear hcz29_5; try clear hcz29_6; try clear hcz29_7; try clear hcz29_8; try clear hcz31_0; try clear hcz31_1; try clear hcz31_2; try clear hcz31_3; try clear hcz31_4; try clear hcz31_5; try clear hcz31_6; try clear hcz31_7; try clear hcz31_8; try clear hcz32_0; try clear hcz32_1; try clear hcz32_2; try clear hcz32_3; try clear hcz32_4; try clear hcz32_5; try clear hcz32_6; try clear hcz32_7; try clear hcz32_8; try clear hfz10_0; try clear hfz10_1; try clear hfz10_2; try clear hfz10_3; try clear hfz10_4; try clear hfz10_5; try clear hfz10_6; try clear hfz10_7; try clear hfz10_8; try clear hfz11_0; try clear hfz11_1; try clear hfz11_2; try clear hfz11_3; try clear hfz11_4; try clear hfz11_5; try clear hfz11_6; try clear hfz11_7; try clear hfz11_8; try clear hfz14_0; try clear hfz14_1; try clear hfz14_2; try clear hfz14_3; try clear hfz14_4; try clear hfz14_5; try clear hfz14_6; try clear hfz14_7; try clear hfz14_8; try clear hfz15_0; try clear hfz15_1; try clear hfz15_2; try clear hfz15_3; try clear hfz15_4; try clear hfz15_5; try clear hfz15_6; try clear hfz15_7; try clear hfz15_8; try clear hfz19_0; try clear hfz19_1; try clear hfz19_2; try clear hfz19_3; try clear hfz19_4; try clear hfz19_5; try clear hfz19_6; try clear hfz19_7; try clear hfz19_8; try clear hfz20_0; try clear hfz20_1; try clear hfz20_2; try clear hfz20_3; try clear hfz20_4; try clear hfz20_5; try clear hfz20_6; try clear hfz20_7; try clear hfz20_8; try clear hfz22_0; try clear hfz22_1; try clear hfz22_2; try clear hfz22_3; try clear hfz22_4; try clear hfz22_5; try clear hfz22_6; try clear hfz22_7; try clear hfz22_8; try clear hfz23_0; try clear hfz23_1; try clear hfz23_2; try clear hfz23_3; try clear hfz23_4; try clear hfz23_5; try clear hfz23_6; try clear hfz23_7; try clear hfz23_8; try clear hfz25_0; try clear hfz25_1; try clear hfz25_2; try clear hfz25_3; try clear hfz25_4; try clear hfz25_5; try clear hfz25_6; try clear hfz25_7; try clear hfz25_8; try clear hfz26_0; try clear hfz26_1; try clear hfz26_2; try clear hfz26_3; try clear hfz26_4; try clear hfz26_5; try clear hfz26_6; try clear hfz26_7; try clear hfz26_8; try clear hfz28_0; try clear hfz28_1; try clear hfz28_2; try clear hfz28_3; try clear hfz28_4; try clear hfz28_5; try clear hfz28_6; try clear hfz28_7; try clear hfz28_8; try clear hfz29_0; try clear hfz29_1; try clear hfz29_2; try clear hfz29_3; try clear hfz29_4; try clear hfz29_5; try clear hfz29_6; try clear hfz29_7; try clear hfz29_8; try clear hfz31_0; try clear hfz31_1; try clear hfz31_2; try clear hfz31_3; try clear hfz31_4; try clear hfz31_5; try clear hfz31_6; try clear hfz31_7; try clear hfz31_8; try clear hfz32_0; try clear hfz32_1; try clear hfz32_2; try clear hfz32_3; try clear hfz32_4; try clear hfz32_5; try clear hfz32_6; try clear hfz32_7; try clear hfz32_8
     obtain ⟨x5_2, rfl, HA, HK2, BK337, BK338, HB⟩ := hrel
     cases gk with
     | zero => exact absurd HA.out (by simp [spec_SameType.l0])
     | succ k2 =>
      have H := HA.out; clear HA
      simp only [spec_SameType.l0] at H
      by_cases c34 : x5_2 < (l0_6.length : Int)
      ·
       rw [if_pos c34] at H
       have c34b0 : decide (x5_2 < (l0_6.length : Int)) = true := zR c34; clear c34
       by_cases c35 : 0 ≤ x5_2
       ·
        rw [if_pos c35] at H
        have c35b0 : decide (0 ≤ x5_2) = true := zR c35; clear c35
        by_cases c36 : x5_2 < (l1_6.length : Int)
        ·
         rw [if_pos c36] at H
         have c36b0 : decide (x5_2 < (l1_6.length : Int)) = true := zR c36; clear c36
         by_cases c37 : ((rd_T64 l0_6 x5_2).f0).toList = ((rd_T64 l1_6 x5_2).f0).toList
         ·
          rw [if_pos c37] at H
          have c37b0 : (((rd_T64 l0_6 x5_2).f0).toList == ((rd_T64 l1_6 x5_2).f0).toList) = true := beq_iff_eq.mpr c37
          have c37b1 : (((rd_T64 l0_6 x5_2).f0).toList != ((rd_T64 l1_6 x5_2).f0).toList) = false := bne_eq_false_iff_eq.mpr c37
          clear c37
          by_cases c38 : ((rd_T64 l0_6 x5_2).f1) = ((rd_T64 l1_6 x5_2).f1)
          ·
           rw [if_pos c38] at H
           have c38b0 : (((rd_T64 l0_6 x5_2).f1) == ((rd_T64 l1_6 x5_2).f1)) = true := beq_iff_eq.mpr c38
           have c38b1 : (((rd_T64 l0_6 x5_2).f1) != ((rd_T64 l1_6 x5_2).f1)) = false := bne_eq_false_iff_eq.mpr c38
           clear c38
           obtain ⟨t345, A390, H⟩ := zW_ H
           replace H : (if t345 = true then (spec_SameType.l0 k2 (wrap64 (x5_2 + 1)) a0_0 a0_1 a0_2 a0_3 l0_4 l0_5 l0_6 l0_7 a0_8 a1_0 a1_1 a1_2 a1_3 l1_4 l1_5 l1_6 l1_7 a1_8) else (some false)) = some r := H
           have A39 := yD A390
           clear A390
           by_cases c40 : t345 = true
           ·
            subst c40
            replace H : (spec_SameType.l0 k2 (wrap64 (x5_2 + 1)) a0_0 a0_1 a0_2 a0_3 l0_4 l0_5 l0_6 l0_7 a0_8 a1_0 a1_1 a1_2 a1_3 l1_4 l1_5 l1_6 l1_7 a1_8) = some r := (by rw [if_pos rfl] at H; exact H)
            have H' := yD H
            clear H; have hnb41 := NB337_338.out; have hnc41 := NB338_337.out
            obtain ⟨hcz42_0, hcz42_1, hcz42_2, hcz42_3, hcz42_4, hcz42_5, hcz42_6, hcz42_7, hcz42_8⟩ := cz9 BK337.out
            obtain ⟨hfz42_0, hfz42_1, hfz42_2, hfz42_3, hfz42_4, hfz42_5, hfz42_6, hfz42_7, hfz42_8⟩ := fz9 BK337.out
            try go_wp2
            have n0_ := yD (yO BK337.out)
            have n1_ := yD (yO BK338.out)
            have n2_ := yD (yP HB.out)
            clear BK337 BK338 HB; have BK337 := n0_; have BK338 := n1_; have HB := n2_; clear n0_ n1_ n2_
            have p339 : 0 ≤ (x5_2 : Int) := zP (by assumption)
            have q339 : x5_2 < (l0_6.length : Int) := zP (by assumption)
            obtain ⟨ad339, A339_6, c339_6, A339_7, c339_7, A339_8, c339_8, A339_9, c339_9, e339, hx339_0, hx339_1, hx339_2, hx339_3, hx339_4, hx339_5, hx339_6, hx339_7, hx339_8, hx339_9, hx339_10, hl339_6, hi339_6, hl339_7, hi339_7, hl339_8, hi339_8, hl339_9, hi339_9⟩ := at_T64 HR0_6.out x5_2 p339 q339
            have hw339_10 := hx339_10; have hw339_9 := hx339_9; have hw339_8 := hx339_8; have hw339_7 := hx339_7; have hw339_6 := hx339_6; have hw339_5 := hx339_5; have hw339_4 := hx339_4; have hw339_3 := hx339_3; have hw339_2 := hx339_2; have hw339_1 := hx339_1; have hw339_0 := hx339_0; cases e339
            replace hx339_0 := kCx3_ HB hx339_0
            replace hx339_1 := kCx3_ HB hx339_1
            replace hx339_2 := kCx3_ HB hx339_2
            replace hx339_3 := kCx3_ HB hx339_3
            replace hx339_4 := kCx3_ HB hx339_4
            replace hx339_5 := kCx3_ HB hx339_5
            replace hx339_6 := kCx3_ HB hx339_6
            replace hx339_7 := kCx3_ HB hx339_7
            replace hx339_8 := kCx3_ HB hx339_8
            replace hx339_9 := kCx3_ HB hx339_9
            replace hx339_10 := kCx3_ HB hx339_10
            have HR339_6 := yD hi339_6
            have HC339_6 := yD hl339_6
            clear hi339_6 hl339_6
            have HR339_7 := yD hi339_7
            have HC339_7 := yD hl339_7
            clear hi339_7 hl339_7
            have HR339_8 := yD hi339_8
            have HC339_8 := yD hl339_8
            clear hi339_8 hl339_8
            have HR339_9 := yD hi339_9
            have HC339_9 := yD hl339_9
            clear hi339_9 hl339_9; replace p339 := eq_true p339; replace q339 := eq_true q339
            have p340 : 0 ≤ (x5_2 : Int) := zP (by assumption)
            have q340 : x5_2 < (l1_6.length : Int) := zP (by assumption)
            obtain ⟨ad340, A340_6, c340_6, A340_7, c340_7, A340_8, c340_8, A340_9, c340_9, e340, hx340_0, hx340_1, hx340_2, hx340_3, hx340_4, hx340_5, hx340_6, hx340_7, hx340_8, hx340_9, hx340_10, hl340_6, hi340_6, hl340_7, hi340_7, hl340_8, hi340_8, hl340_9, hi340_9⟩ := at_T64 HR1_6.out x5_2 p340 q340
            have hw340_10 := hx340_10; have hw340_9 := hx340_9; have hw340_8 := hx340_8; have hw340_7 := hx340_7; have hw340_6 := hx340_6; have hw340_5 := hx340_5; have hw340_4 := hx340_4; have hw340_3 := hx340_3; have hw340_2 := hx340_2; have hw340_1 := hx340_1; have hw340_0 := hx340_0; cases e340
            replace hx340_0 := kCx3_ HB hx340_0
            replace hx340_1 := kCx3_ HB hx340_1
            replace hx340_2 := kCx3_ HB hx340_2
            replace hx340_3 := kCx3_ HB hx340_3
            replace hx340_4 := kCx3_ HB hx340_4
            replace hx340_5 := kCx3_ HB hx340_5
            replace hx340_6 := kCx3_ HB hx340_6
            replace hx340_7 := kCx3_ HB hx340_7
            replace hx340_8 := kCx3_ HB hx340_8
            replace hx340_9 := kCx3_ HB hx340_9
            replace hx340_10 := kCx3_ HB hx340_10
            have HR340_6 := yD hi340_6
            have HC340_6 := yD hl340_6
            clear hi340_6 hl340_6
            have HR340_7 := yD hi340_7
            have HC340_7 := yD hl340_7
            clear hi340_7 hl340_7
            have HR340_8 := yD hi340_8
            have HC340_8 := yD hl340_8
            clear hi340_8 hl340_8
            have HR340_9 := yD hi340_9
            have HC340_9 := yD hl340_9
            clear hi340_9 hl340_9; replace p340 := eq_true p340; replace q340 := eq_true q340
            have p341 : 0 ≤ (x5_2 : Int) := zP (by assumption)
            have q341 : x5_2 < (l0_6.length : Int) := zP (by assumption)
            obtain ⟨ad341, A341_6, c341_6, A341_7, c341_7, A341_8, c341_8, A341_9, c341_9, e341, hx341_0, hx341_1, hx341_2, hx341_3, hx341_4, hx341_5, hx341_6, hx341_7, hx341_8, hx341_9, hx341_10, hl341_6, hi341_6, hl341_7, hi341_7, hl341_8, hi341_8, hl341_9, hi341_9⟩ := at_T64 HR0_6.out x5_2 p341 q341
            have hw341_10 := hx341_10; have hw341_9 := hx341_9; have hw341_8 := hx341_8; have hw341_7 := hx341_7; have hw341_6 := hx341_6; have hw341_5 := hx341_5; have hw341_4 := hx341_4; have hw341_3 := hx341_3; have hw341_2 := hx341_2; have hw341_1 := hx341_1; have hw341_0 := hx341_0
            obtain rfl : ad339 = ad341 := (by injection e341)
            replace hx341_0 := kCx3_ HB hx341_0
            replace hx341_1 := kCx3_ HB hx341_1
            replace hx341_2 := kCx3_ HB hx341_2
            replace hx341_3 := kCx3_ HB hx341_3
            replace hx341_4 := kCx3_ HB hx341_4
            replace hx341_5 := kCx3_ HB hx341_5
            replace hx341_6 := kCx3_ HB hx341_6
            replace hx341_7 := kCx3_ HB hx341_7
            replace hx341_8 := kCx3_ HB hx341_8
            replace hx341_9 := kCx3_ HB hx341_9
            replace hx341_10 := kCx3_ HB hx341_10
            have HR341_6 := yD hi341_6
            have HC341_6 := yD hl341_6
            clear hi341_6 hl341_6
            have HR341_7 := yD hi341_7
            have HC341_7 := yD hl341_7
            clear hi341_7 hl341_7
            have HR341_8 := yD hi341_8
            have HC341_8 := yD hl341_8
            clear hi341_8 hl341_8
            have HR341_9 := yD hi341_9
            have HC341_9 := yD hl341_9
            clear hi341_9 hl341_9; replace p341 := eq_true p341; replace q341 := eq_true q341
            have ea_ := Option.some.inj (hx339_6.symm.trans hx341_6)
            injection ea_ with ea_ en_ ec_
            subst ea_; subst ec_; clear en_
            have ea_ := Option.some.inj (hx339_7.symm.trans hx341_7)
            injection ea_ with ea_ en_ ec_
            subst ea_; subst ec_; clear en_
            have ea_ := Option.some.inj (hx339_8.symm.trans hx341_8)
            injection ea_ with ea_ en_ ec_
            subst ea_; subst ec_; clear en_
            have ea_ := Option.some.inj (hx339_9.symm.trans hx341_9)
            injection ea_ with ea_ en_ ec_
            subst ea_; subst ec_; clear en_
            have p342 : 0 ≤ (x5_2 : Int) := zP (by assumption)
            have q342 : x5_2 < (l1_6.length : Int) := zP (by assumption)
            obtain ⟨ad342, A342_6, c342_6, A342_7, c342_7, A342_8, c342_8, A342_9, c342_9, e342, hx342_0, hx342_1, hx342_2, hx342_3, hx342_4, hx342_5, hx342_6, hx342_7, hx342_8, hx342_9, hx342_10, hl342_6, hi342_6, hl342_7, hi342_7, hl342_8, hi342_8, hl342_9, hi342_9⟩ := at_T64 HR1_6.out x5_2 p342 q342
            have hw342_10 := hx342_10; have hw342_9 := hx342_9; have hw342_8 := hx342_8; have hw342_7 := hx342_7; have hw342_6 := hx342_6; have hw342_5 := hx342_5; have hw342_4 := hx342_4; have hw342_3 := hx342_3; have hw342_2 := hx342_2; have hw342_1 := hx342_1; have hw342_0 := hx342_0
            obtain rfl : ad340 = ad342 := (by injection e342)
            replace hx342_0 := kCx3_ HB hx342_0
            replace hx342_1 := kCx3_ HB hx342_1
            replace hx342_2 := kCx3_ HB hx342_2
            replace hx342_3 := kCx3_ HB hx342_3
            replace hx342_4 := kCx3_ HB hx342_4
            replace hx342_5 := kCx3_ HB hx342_5
            replace hx342_6 := kCx3_ HB hx342_6
            replace hx342_7 := kCx3_ HB hx342_7
            replace hx342_8 := kCx3_ HB hx342_8
            replace hx342_9 := kCx3_ HB hx342_9
            replace hx342_10 := kCx3_ HB hx342_10
            have HR342_6 := yD hi342_6
            have HC342_6 := yD hl342_6
            clear hi342_6 hl342_6
            have HR342_7 := yD hi342_7
            have HC342_7 := yD hl342_7
            clear hi342_7 hl342_7
            have HR342_8 := yD hi342_8
            have HC342_8 := yD hl342_8
            clear hi342_8 hl342_8
            have HR342_9 := yD hi342_9
            have HC342_9 := yD hl342_9
            clear hi342_9 hl342_9; replace p342 := eq_true p342; replace q342 := eq_true q342
            have ea_ := Option.some.inj (hx340_6.symm.trans hx342_6)
            injection ea_ with ea_ en_ ec_
            subst ea_; subst ec_; clear en_
            have ea_ := Option.some.inj (hx340_7.symm.trans hx342_7)
            injection ea_ with ea_ en_ ec_
            subst ea_; subst ec_; clear en_
            have ea_ := Option.some.inj (hx340_8.symm.trans hx342_8)
            injection ea_ with ea_ en_ ec_
            subst ea_; subst ec_; clear en_
            have ea_ := Option.some.inj (hx340_9.symm.trans hx342_9)
            injection ea_ with ea_ en_ ec_
            subst ea_; subst ec_; clear en_
            have p343 : 0 ≤ (x5_2 : Int) := zP (by assumption)
            have q343 : x5_2 < (l0_6.length : Int) := zP (by assumption)
            obtain ⟨ad343, A343_6, c343_6, A343_7, c343_7, A343_8, c343_8, A343_9, c343_9, e343, hx343_0, hx343_1, hx343_2, hx343_3, hx343_4, hx343_5, hx343_6, hx343_7, hx343_8, hx343_9, hx343_10, hl343_6, hi343_6, hl343_7, hi343_7, hl343_8, hi343_8, hl343_9, hi343_9⟩ := at_T64 HR0_6.out x5_2 p343 q343
            have hw343_10 := hx343_10; have hw343_9 := hx343_9; have hw343_8 := hx343_8; have hw343_7 := hx343_7; have hw343_6 := hx343_6; have hw343_5 := hx343_5; have hw343_4 := hx343_4; have hw343_3 := hx343_3; have hw343_2 := hx343_2; have hw343_1 := hx343_1; have hw343_0 := hx343_0
            obtain rfl : ad339 = ad343 := (by injection e343)
            replace hx343_0 := kCx3_ HB hx343_0
            replace hx343_1 := kCx3_ HB hx343_1
            replace hx343_2 := kCx3_ HB hx343_2
            replace hx343_3 := kCx3_ HB hx343_3
            replace hx343_4 := kCx3_ HB hx343_4
            replace hx343_5 := kCx3_ HB hx343_5
            replace hx343_6 := kCx3_ HB hx343_6
            replace hx343_7 := kCx3_ HB hx343_7
            replace hx343_8 := kCx3_ HB hx343_8
            replace hx343_9 := kCx3_ HB hx343_9
            replace hx343_10 := kCx3_ HB hx343_10
            have HR343_6 := yD hi343_6
            have HC343_6 := yD hl343_6
            clear hi343_6 hl343_6
            have HR343_7 := yD hi343_7
            have HC343_7 := yD hl343_7
            clear hi343_7 hl343_7
            have HR343_8 := yD hi343_8
            have HC343_8 := yD hl343_8
            clear hi343_8 hl343_8
            have HR343_9 := yD hi343_9
            have HC343_9 := yD hl343_9
            clear hi343_9 hl343_9; replace p343 := eq_true p343; replace q343 := eq_true q343
            have ea_ := Option.some.inj (hx339_6.symm.trans hx343_6)
            injection ea_ with ea_ en_ ec_
            subst ea_; subst ec_; clear en_
            have ea_ := Option.some.inj (hx339_7.symm.trans hx343_7)
            injection ea_ with ea_ en_ ec_
            subst ea_; subst ec_; clear en_
            have ea_ := Option.some.inj (hx339_8.symm.trans hx343_8)
            injection ea_ with ea_ en_ ec_
            subst ea_; subst ec_; clear en_
            have ea_ := Option.some.inj (hx339_9.symm.trans hx343_9)
            injection ea_ with ea_ en_ ec_
            subst ea_; subst ec_; clear en_
            have p344 : 0 ≤ (x5_2 : Int) := zP (by assumption)
            have q344 : x5_2 < (l1_6.length : Int) := zP (by assumption)
            obtain ⟨ad344, A344_6, c344_6, A344_7, c344_7, A344_8, c344_8, A344_9, c344_9, e344, hx344_0, hx344_1, hx344_2, hx344_3, hx344_4, hx344_5, hx344_6, hx344_7, hx344_8, hx344_9, hx344_10, hl344_6, hi344_6, hl344_7, hi344_7, hl344_8, hi344_8, hl344_9, hi344_9⟩ := at_T64 HR1_6.out x5_2 p344 q344
            have hw344_10 := hx344_10; have hw344_9 := hx344_9; have hw344_8 := hx344_8; have hw344_7 := hx344_7; have hw344_6 := hx344_6; have hw344_5 := hx344_5; have hw344_4 := hx344_4; have hw344_3 := hx344_3; have hw344_2 := hx344_2; have hw344_1 := hx344_1; have hw344_0 := hx344_0
            obtain rfl : ad340 = ad344 := (by injection e344)
            replace hx344_0 := kCx3_ HB hx344_0
            replace hx344_1 := kCx3_ HB hx344_1
            replace hx344_2 := kCx3_ HB hx344_2
            replace hx344_3 := kCx3_ HB hx344_3
            replace hx344_4 := kCx3_ HB hx344_4
            replace hx344_5 := kCx3_ HB hx344_5
            replace hx344_6 := kCx3_ HB hx344_6
            replace hx344_7 := kCx3_ HB hx344_7
            replace hx344_8 := kCx3_ HB hx344_8
            replace hx344_9 := kCx3_ HB hx344_9
            replace hx344_10 := kCx3_ HB hx344_10
            have HR344_6 := yD hi344_6
            have HC344_6 := yD hl344_6
            clear hi344_6 hl344_6
            have HR344_7 := yD hi344_7
            have HC344_7 := yD hl344_7
            clear hi344_7 hl344_7
            have HR344_8 := yD hi344_8
            have HC344_8 := yD hl344_8
            clear hi344_8 hl344_8
            have HR344_9 := yD hi344_9
            have HC344_9 := yD hl344_9
            clear hi344_9 hl344_9; replace p344 := eq_true p344; replace q344 := eq_true q344
            have ea_ := Option.some.inj (hx340_6.symm.trans hx344_6)
            injection ea_ with ea_ en_ ec_
            subst ea_; subst ec_; clear en_
            have ea_ := Option.some.inj (hx340_7.symm.trans hx344_7)
            injection ea_ with ea_ en_ ec_
            subst ea_; subst ec_; clear en_
            have ea_ := Option.some.inj (hx340_8.symm.trans hx344_8)
            injection ea_ with ea_ en_ ec_
            subst ea_; subst ec_; clear en_
            have ea_ := Option.some.inj (hx340_9.symm.trans hx344_9)
            injection ea_ with ea_ en_ ec_
            subst ea_; subst ec_; clear en_
            refine start_ (n := 44) (S := fun w' => w'.cell? ⟨gb337, 0, none⟩ = some (.int .i64 a0_0) ∧ w'.cell? ⟨gb337, 1, none⟩ = some (.int .i64 a0_1) ∧ w'.cell? ⟨gb337, 2, none⟩ = some (.bool a0_2) ∧ w'.cell? ⟨gb337, 3, none⟩ = some (.bool a0_3) ∧ w'.cell? ⟨gb337, 4, none⟩ = some (.slice A0_4 l0_4.length c0_4) ∧ w'.cell? ⟨gb337, 5, none⟩ = some (.slice A0_5 l0_5.length c0_5) ∧ w'.cell? ⟨gb337, 6, none⟩ = some (.slice (some ad339) l0_6.length c0_6) ∧ w'.cell? ⟨gb337, 7, none⟩ = some (.slice A0_7 l0_7.length c0_7) ∧ w'.cell? ⟨gb337, 8, none⟩ = some (.int .i64 a0_8) ∧ w'.cell? ⟨gb338, 0, none⟩ = some (.int .i64 a1_0) ∧ w'.cell? ⟨gb338, 1, none⟩ = some (.int .i64 a1_1) ∧ w'.cell? ⟨gb338, 2, none⟩ = some (.bool a1_2) ∧ w'.cell? ⟨gb338, 3, none⟩ = some (.bool a1_3) ∧ w'.cell? ⟨gb338, 4, none⟩ = some (.slice A1_4 l1_4.length c1_4) ∧ w'.cell? ⟨gb338, 5, none⟩ = some (.slice A1_5 l1_5.length c1_5) ∧ w'.cell? ⟨gb338, 6, none⟩ = some (.slice (some ad340) l1_6.length c1_6) ∧ w'.cell? ⟨gb338, 7, none⟩ = some (.slice A1_7 l1_7.length c1_7) ∧ w'.cell? ⟨gb338, 8, none⟩ = some (.int .i64 a1_8) ∧ w'.cell? (ad339.add ((x5_2).toNat * 11)) = some (.string ((rd_T64 l0_6 x5_2).f0)) ∧ w'.cell? ⟨(ad339.add ((x5_2).toNat * 11)).block, (ad339.add ((x5_2).toNat * 11)).off + 1, none⟩ = some (.int .i64 ((rd_T64 l0_6 x5_2).f1)) ∧ w'.cell? ⟨(ad339.add ((x5_2).toNat * 11)).block, (ad339.add ((x5_2).toNat * 11)).off + 2, none⟩ = some (.int .i64 ((rd_T64 l0_6 x5_2).f2.f0)) ∧ w'.cell? ⟨(ad339.add ((x5_2).toNat * 11)).block, (ad339.add ((x5_2).toNat * 11)).off + 3, none⟩ = some (.int .i64 ((rd_T64 l0_6 x5_2).f2.f1)) ∧ w'.cell? ⟨(ad339.add ((x5_2).toNat * 11)).block, (ad339.add ((x5_2).toNat * 11)).off + 4, none⟩ = some (.bool ((rd_T64 l0_6 x5_2).f2.f2)) ∧ w'.cell? ⟨(ad339.add ((x5_2).toNat * 11)).block, (ad339.add ((x5_2).toNat * 11)).off + 5, none⟩ = some (.bool ((rd_T64 l0_6 x5_2).f2.f3)) ∧ w'.cell? ⟨(ad339.add ((x5_2).toNat * 11)).block, (ad339.add ((x5_2).toNat * 11)).off + 6, none⟩ = some (.slice A339_6 ((rd_T64 l0_6 x5_2).f2.f4).length c339_6) ∧ w'.cell? ⟨(ad339.add ((x5_2).toNat * 11)).block, (ad339.add ((x5_2).toNat * 11)).off + 7, none⟩ = some (.slice A339_7 ((rd_T64 l0_6 x5_2).f2.f5).length c339_7) ∧ w'.cell? ⟨(ad339.add ((x5_2).toNat * 11)).block, (ad339.add ((x5_2).toNat * 11)).off + 8, none⟩ = some (.slice A339_8 ((rd_T64 l0_6 x5_2).f2.f6).length c339_8) ∧ w'.cell? ⟨(ad339.add ((x5_2).toNat * 11)).block, (ad339.add ((x5_2).toNat * 11)).off + 9, none⟩ = some (.slice A339_9 ((rd_T64 l0_6 x5_2).f2.f7).length c339_9) ∧ w'.cell? ⟨(ad339.add ((x5_2).toNat * 11)).block, (ad339.add ((x5_2).toNat * 11)).off + 10, none⟩ = some (.int .i64 ((rd_T64 l0_6 x5_2).f2.f8)) ∧ w'.cell? (ad340.add ((x5_2).toNat * 11)) = some (.string ((rd_T64 l1_6 x5_2).f0)) ∧ w'.cell? ⟨(ad340.add ((x5_2).toNat * 11)).block, (ad340.add ((x5_2).toNat * 11)).off + 1, none⟩ = some (.int .i64 ((rd_T64 l1_6 x5_2).f1)) ∧ w'.cell? ⟨(ad340.add ((x5_2).toNat * 11)).block, (ad340.add ((x5_2).toNat * 11)).off + 2, none⟩ = some (.int .i64 ((rd_T64 l1_6 x5_2).f2.f0)) ∧ w'.cell? ⟨(ad340.add ((x5_2).toNat * 11)).block, (ad340.add ((x5_2).toNat * 11)).off + 3, none⟩ = some (.int .i64 ((rd_T64 l1_6 x5_2).f2.f1)) ∧ w'.cell? ⟨(ad340.add ((x5_2).toNat * 11)).block, (ad340.add ((x5_2).toNat * 11)).off + 4, none⟩ = some (.bool ((rd_T64 l1_6 x5_2).f2.f2)) ∧ w'.cell? ⟨(ad340.add ((x5_2).toNat * 11)).block, (ad340.add ((x5_2).toNat * 11)).off + 5, none⟩ = some (.bool ((rd_T64 l1_6 x5_2).f2.f3)) ∧ w'.cell? ⟨(ad340.add ((x5_2).toNat * 11)).block, (ad340.add ((x5_2).toNat * 11)).off + 6, none⟩ = some (.slice A340_6 ((rd_T64 l1_6 x5_2).f2.f4).length c340_6) ∧ w'.cell? ⟨(ad340.add ((x5_2).toNat * 11)).block, (ad340.add ((x5_2).toNat * 11)).off + 7, none⟩ = some (.slice A340_7 ((rd_T64 l1_6 x5_2).f2.f5).length c340_7) ∧ w'.cell? ⟨(ad340.add ((x5_2).toNat * 11)).block, (ad340.add ((x5_2).toNat * 11)).off + 8, none⟩ = some (.slice A340_8 ((rd_T64 l1_6 x5_2).f2.f6).length c340_8) ∧ w'.cell? ⟨(ad340.add ((x5_2).toNat * 11)).block, (ad340.add ((x5_2).toNat * 11)).off + 9, none⟩ = some (.slice A340_9 ((rd_T64 l1_6 x5_2).f2.f7).length c340_9) ∧ w'.cell? ⟨(ad340.add ((x5_2).toNat * 11)).block, (ad340.add ((x5_2).toNat * 11)).off + 10, none⟩ = some (.int .i64 ((rd_T64 l1_6 x5_2).f2.f8)) ∧ w'.cell? (ad339.add ((x5_2).toNat * 11)) = some (.string ((rd_T64 l0_6 x5_2).f0)) ∧ w'.cell? ⟨(ad339.add ((x5_2).toNat * 11)).block, (ad339.add ((x5_2).toNat * 11)).off + 1, none⟩ = some (.int .i64 ((rd_T64 l0_6 x5_2).f1)) ∧ w'.cell? ⟨(ad339.add ((x5_2).toNat * 11)).block, (ad339.add ((x5_2).toNat * 11)).off + 2, none⟩ = some (.int .i64 ((rd_T64 l0_6 x5_2).f2.f0)) ∧ w'.cell? ⟨(ad339.add ((x5_2).toNat * 11)).block, (ad339.add ((x5_2).toNat * 11)).off + 3, none⟩ = some (.int .i64 ((rd_T64 l0_6 x5_2).f2.f1)) ∧ w'.cell? ⟨(ad339.add ((x5_2).toNat * 11)).block, (ad339.add ((x5_2).toNat * 11)).off + 4, none⟩ = some (.bool ((rd_T64 l0_6 x5_2).f2.f2)) ∧ w'.cell? ⟨(ad339.add ((x5_2).toNat * 11)).block, (ad339.add ((x5_2).toNat * 11)).off + 5, none⟩ = some (.bool ((rd_T64 l0_6 x5_2).f2.f3)) ∧ w'.cell? ⟨(ad339.add ((x5_2).toNat * 11)).block, (ad339.add ((x5_2).toNat * 11)).off + 6, none⟩ = some (.slice A339_6 ((rd_T64 l0_6 x5_2).f2.f4).length c339_6) ∧ w'.cell? ⟨(ad339.add ((x5_2).toNat * 11)).block, (ad339.add ((x5_2).toNat * 11)).off + 7, none⟩ = some (.slice A339_7 ((rd_T64 l0_6 x5_2).f2.f5).length c339_7) ∧ w'.cell? ⟨(ad339.add ((x5_2).toNat * 11)).block, (ad339.add ((x5_2).toNat * 11)).off + 8, none⟩ = some (.slice A339_8 ((rd_T64 l0_6 x5_2).f2.f6).length c339_8) ∧ w'.cell? ⟨(ad339.add ((x5_2).toNat * 11)).block, (ad339.add ((x5_2).toNat * 11)).off + 9, none⟩ = some (.slice A339_9 ((rd_T64 l0_6 x5_2).f2.f7).length c339_9) ∧ w'.cell? ⟨(ad339.add ((x5_2).toNat * 11)).block, (ad339.add ((x5_2).toNat * 11)).off + 10, none⟩ = some (.int .i64 ((rd_T64 l0_6 x5_2).f2.f8)) ∧ w'.cell? (ad340.add ((x5_2).toNat * 11)) = some (.string ((rd_T64 l1_6 x5_2).f0)) ∧ w'.cell? ⟨(ad340.add ((x5_2).toNat * 11)).block, (ad340.add ((x5_2).toNat * 11)).off + 1, none⟩ = some (.int .i64 ((rd_T64 l1_6 x5_2).f1)) ∧ w'.cell? ⟨(ad340.add ((x5_2).toNat * 11)).block, (ad340.add ((x5_2).toNat * 11)).off + 2, none⟩ = some (.int .i64 ((rd_T64 l1_6 x5_2).f2.f0)) ∧ w'.cell? ⟨(ad340.add ((x5_2).toNat * 11)).block, (ad340.add ((x5_2).toNat * 11)).off + 3, none⟩ = some (.int .i64 ((rd_T64 l1_6 x5_2).f2.f1)) ∧ w'.cell? ⟨(ad340.add ((x5_2).toNat * 11)).block, (ad340.add ((x5_2).toNat * 11)).off + 4, none⟩ = some (.bool ((rd_T64 l1_6 x5_2).f2.f2)) ∧ w'.cell? ⟨(ad340.add ((x5_2).toNat * 11)).block, (ad340.add ((x5_2).toNat * 11)).off + 5, none⟩ = some (.bool ((rd_T64 l1_6 x5_2).f2.f3)) ∧ w'.cell? ⟨(ad340.add ((x5_2).toNat * 11)).block, (ad340.add ((x5_2).toNat * 11)).off + 6, none⟩ = some (.slice A340_6 ((rd_T64 l1_6 x5_2).f2.f4).length c340_6) ∧ w'.cell? ⟨(ad340.add ((x5_2).toNat * 11)).block, (ad340.add ((x5_2).toNat * 11)).off + 7, none⟩ = some (.slice A340_7 ((rd_T64 l1_6 x5_2).f2.f5).length c340_7) ∧ w'.cell? ⟨(ad340.add ((x5_2).toNat * 11)).block, (ad340.add ((x5_2).toNat * 11)).off + 8, none⟩ = some (.slice A340_8 ((rd_T64 l1_6 x5_2).f2.f6).length c340_8) ∧ w'.cell? ⟨(ad340.add ((x5_2).toNat * 11)).block, (ad340.add ((x5_2).toNat * 11)).off + 9, none⟩ = some (.slice A340_9 ((rd_T64 l1_6 x5_2).f2.f7).length c340_9) ∧ w'.cell? ⟨(ad340.add ((x5_2).toNat * 11)).block, (ad340.add ((x5_2).toNat * 11)).off + 10, none⟩ = some (.int .i64 ((rd_T64 l1_6 x5_2).f2.f8)) ∧ w'.cell? (ad339.add ((x5_2).toNat * 11)) = some (.string ((rd_T64 l0_6 x5_2).f0)) ∧ w'.cell? ⟨(ad339.add ((x5_2).toNat * 11)).block, (ad339.add ((x5_2).toNat * 11)).off + 1, none⟩ = some (.int .i64 ((rd_T64 l0_6 x5_2).f1)) ∧ w'.cell? ⟨(ad339.add ((x5_2).toNat * 11)).block, (ad339.add ((x5_2).toNat * 11)).off + 2, none⟩ = some (.int .i64 ((rd_T64 l0_6 x5_2).f2.f0)) ∧ w'.cell? ⟨(ad339.add ((x5_2).toNat * 11)).block, (ad339.add ((x5_2).toNat * 11)).off + 3, none⟩ = some (.int .i64 ((rd_T64 l0_6 x5_2).f2.f1)) ∧ w'.cell? ⟨(ad339.add ((x5_2).toNat * 11)).block, (ad339.add ((x5_2).toNat * 11)).off + 4, none⟩ = some (.bool ((rd_T64 l0_6 x5_2).f2.f2)) ∧ w'.cell? ⟨(ad339.add ((x5_2).toNat * 11)).block, (ad339.add ((x5_2).toNat * 11)).off + 5, none⟩ = some (.bool ((rd_T64 l0_6 x5_2).f2.f3)) ∧ w'.cell? ⟨(ad339.add ((x5_2).toNat * 11)).block, (ad339.add ((x5_2).toNat * 11)).off + 6, none⟩ = some (.slice A339_6 ((rd_T64 l0_6 x5_2).f2.f4).length c339_6) ∧ w'.cell? ⟨(ad339.add ((x5_2).toNat * 11)).block, (ad339.add ((x5_2).toNat * 11)).off + 7, none⟩ = some (.slice A339_7 ((rd_T64 l0_6 x5_2).f2.f5).length c339_7) ∧ w'.cell? ⟨(ad339.add ((x5_2).toNat * 11)).block, (ad339.add ((x5_2).toNat * 11)).off + 8, none⟩ = some (.slice A339_8 ((rd_T64 l0_6 x5_2).f2.f6).length c339_8) ∧ w'.cell? ⟨(ad339.add ((x5_2).toNat * 11)).block, (ad339.add ((x5_2).toNat * 11)).off + 9, none⟩ = some (.slice A339_9 ((rd_T64 l0_6 x5_2).f2.f7).length c339_9) ∧ w'.cell? ⟨(ad339.add ((x5_2).toNat * 11)).block, (ad339.add ((x5_2).toNat * 11)).off + 10, none⟩ = some (.int .i64 ((rd_T64 l0_6 x5_2).f2.f8)) ∧ w'.cell? (ad340.add ((x5_2).toNat * 11)) = some (.string ((rd_T64 l1_6 x5_2).f0)) ∧ w'.cell? ⟨(ad340.add ((x5_2).toNat * 11)).block, (ad340.add ((x5_2).toNat * 11)).off + 1, none⟩ = some (.int .i64 ((rd_T64 l1_6 x5_2).f1)) ∧ w'.cell? ⟨(ad340.add ((x5_2).toNat * 11)).block, (ad340.add ((x5_2).toNat * 11)).off + 2, none⟩ = some (.int .i64 ((rd_T64 l1_6 x5_2).f2.f0)) ∧ w'.cell? ⟨(ad340.add ((x5_2).toNat * 11)).block, (ad340.add ((x5_2).toNat * 11)).off + 3, none⟩ = some (.int .i64 ((rd_T64 l1_6 x5_2).f2.f1)) ∧ w'.cell? ⟨(ad340.add ((x5_2).toNat * 11)).block, (ad340.add ((x5_2).toNat * 11)).off + 4, none⟩ = some (.bool ((rd_T64 l1_6 x5_2).f2.f2)) ∧ w'.cell? ⟨(ad340.add ((x5_2).toNat * 11)).block, (ad340.add ((x5_2).toNat * 11)).off + 5, none⟩ = some (.bool ((rd_T64 l1_6 x5_2).f2.f3)) ∧ w'.cell? ⟨(ad340.add ((x5_2).toNat * 11)).block, (ad340.add ((x5_2).toNat * 11)).off + 6, none⟩ = some (.slice A340_6 ((rd_T64 l1_6 x5_2).f2.f4).length c340_6) ∧ w'.cell? ⟨(ad340.add ((x5_2).toNat * 11)).block, (ad340.add ((x5_2).toNat * 11)).off + 7, none⟩ = some (.slice A340_7 ((rd_T64 l1_6 x5_2).f2.f5).length c340_7) ∧ w'.cell? ⟨(ad340.add ((x5_2).toNat * 11)).block, (ad340.add ((x5_2).toNat * 11)).off + 8, none⟩ = some (.slice A340_8 ((rd_T64 l1_6 x5_2).f2.f6).length c340_8) ∧ w'.cell? ⟨(ad340.add ((x5_2).toNat * 11)).block, (ad340.add ((x5_2).toNat * 11)).off + 9, none⟩ = some (.slice A340_9 ((rd_T64 l1_6 x5_2).f2.f7).length c340_9) ∧ w'.cell? ⟨(ad340.add ((x5_2).toNat * 11)).block, (ad340.add ((x5_2).toNat * 11)).off + 10, none⟩ = some (.int .i64 ((rd_T64 l1_6 x5_2).f2.f8))) (ds := []) (bz 44 0) (by kernel_rfl) rfl rfl ⟨(yG BK337.out 0).trans rfl, (yG BK337.out 1).trans rfl, (yG BK337.out 2).trans rfl, (yG BK337.out 3).trans rfl, (yG BK337.out 4).trans rfl, (yG BK337.out 5).trans rfl, (yG BK337.out 6).trans rfl, (yG BK337.out 7).trans rfl, (yG BK337.out 8).trans rfl, (yG BK338.out 0).trans rfl, (yG BK338.out 1).trans rfl, (yG BK338.out 2).trans rfl, (yG BK338.out 3).trans rfl, (yG BK338.out 4).trans rfl, (yG BK338.out 5).trans rfl, (yG BK338.out 6).trans rfl, (yG BK338.out 7).trans rfl, (yG BK338.out 8).trans rfl, ((HB.out.cell (zQ w _ hw339_0)).trans hw339_0), ((HB.out.cell (zQ w _ hw339_1)).trans hw339_1), ((HB.out.cell (zQ w _ hw339_2)).trans hw339_2), ((HB.out.cell (zQ w _ hw339_3)).trans hw339_3), ((HB.out.cell (zQ w _ hw339_4)).trans hw339_4), ((HB.out.cell (zQ w _ hw339_5)).trans hw339_5), ((HB.out.cell (zQ w _ hw339_6)).trans hw339_6), ((HB.out.cell (zQ w _ hw339_7)).trans hw339_7), ((HB.out.cell (zQ w _ hw339_8)).trans hw339_8), ((HB.out.cell (zQ w _ hw339_9)).trans hw339_9), ((HB.out.cell (zQ w _ hw339_10)).trans hw339_10), ((HB.out.cell (zQ w _ hw340_0)).trans hw340_0), ((HB.out.cell (zQ w _ hw340_1)).trans hw340_1), ((HB.out.cell (zQ w _ hw340_2)).trans hw340_2), ((HB.out.cell (zQ w _ hw340_3)).trans hw340_3), ((HB.out.cell (zQ w _ hw340_4)).trans hw340_4), ((HB.out.cell (zQ w _ hw340_5)).trans hw340_5), ((HB.out.cell (zQ w _ hw340_6)).trans hw340_6), ((HB.out.cell (zQ w _ hw340_7)).trans hw340_7), ((HB.out.cell (zQ w _ hw340_8)).trans hw340_8), ((HB.out.cell (zQ w _ hw340_9)).trans hw340_9), ((HB.out.cell (zQ w _ hw340_10)).trans hw340_10), ((HB.out.cell (zQ w _ hw341_0)).trans hw341_0), ((HB.out.cell (zQ w _ hw341_1)).trans hw341_1), ((HB.out.cell (zQ w _ hw341_2)).trans hw341_2), ((HB.out.cell (zQ w _ hw341_3)).trans hw341_3), ((HB.out.cell (zQ w _ hw341_4)).trans hw341_4), ((HB.out.cell (zQ w _ hw341_5)).trans hw341_5), ((HB.out.cell (zQ w _ hw341_6)).trans hw341_6), ((HB.out.cell (zQ w _ hw341_7)).trans hw341_7), ((HB.out.cell (zQ w _ hw341_8)).trans hw341_8), ((HB.out.cell (zQ w _ hw341_9)).trans hw341_9), ((HB.out.cell (zQ w _ hw341_10)).trans hw341_10), ((HB.out.cell (zQ w _ hw342_0)).trans hw342_0), ((HB.out.cell (zQ w _ hw342_1)).trans hw342_1), ((HB.out.cell (zQ w _ hw342_2)).trans hw342_2), ((HB.out.cell (zQ w _ hw342_3)).trans hw342_3), ((HB.out.cell (zQ w _ hw342_4)).trans hw342_4), ((HB.out.cell (zQ w _ hw342_5)).trans hw342_5), ((HB.out.cell (zQ w _ hw342_6)).trans hw342_6), ((HB.out.cell (zQ w _ hw342_7)).trans hw342_7), ((HB.out.cell (zQ w _ hw342_8)).trans hw342_8), ((HB.out.cell (zQ w _ hw342_9)).trans hw342_9), ((HB.out.cell (zQ w _ hw342_10)).trans hw342_10), ((HB.out.cell (zQ w _ hw343_0)).trans hw343_0), ((HB.out.cell (zQ w _ hw343_1)).trans hw343_1), ((HB.out.cell (zQ w _ hw343_2)).trans hw343_2), ((HB.out.cell (zQ w _ hw343_3)).trans hw343_3), ((HB.out.cell (zQ w _ hw343_4)).trans hw343_4), ((HB.out.cell (zQ w _ hw343_5)).trans hw343_5), ((HB.out.cell (zQ w _ hw343_6)).trans hw343_6), ((HB.out.cell (zQ w _ hw343_7)).trans hw343_7), ((HB.out.cell (zQ w _ hw343_8)).trans hw343_8), ((HB.out.cell (zQ w _ hw343_9)).trans hw343_9), ((HB.out.cell (zQ w _ hw343_10)).trans hw343_10), ((HB.out.cell (zQ w _ hw344_0)).trans hw344_0), ((HB.out.cell (zQ w _ hw344_1)).trans hw344_1), ((HB.out.cell (zQ w _ hw344_2)).trans hw344_2), ((HB.out.cell (zQ w _ hw344_3)).trans hw344_3), ((HB.out.cell (zQ w _ hw344_4)).trans hw344_4), ((HB.out.cell (zQ w _ hw344_5)).trans hw344_5), ((HB.out.cell (zQ w _ hw344_6)).trans hw344_6), ((HB.out.cell (zQ w _ hw344_7)).trans hw344_7), ((HB.out.cell (zQ w _ hw344_8)).trans hw344_8), ((HB.out.cell (zQ w _ hw344_9)).trans hw344_9), ((HB.out.cell (zQ w _ hw344_10)).trans hw344_10)⟩ (fun hHeld => ?_); refine with_tabW spec_SameType.tab6 spec_SameType.bits6 (fun HT_ HW_ => ?_)
            generalize wr.drew = w43 at BK337 BK338 HB HR339_6 HR339_7 HR339_8 HR339_9 HR340_6 HR340_7 HR340_8 HR340_9 HR341_6 HR341_7 HR341_8 HR341_9 HR342_6 HR342_7 HR342_8 HR342_9 HR343_6 HR343_7 HR343_8 HR343_9 HR344_6 HR344_7 HR344_8 HR344_9 hx339_0 hx339_1 hx339_10 hx339_2 hx339_3 hx339_4 hx339_5 hx339_6 hx339_7 hx339_8 hx339_9 hx340_0 hx340_1 hx340_10 hx340_2 hx340_3 hx340_4 hx340_5 hx340_6 hx340_7 hx340_8 hx340_9 hx341_0 hx341_1 hx341_10 hx341_2 hx341_3 hx341_4 hx341_5 hx341_6 hx341_7 hx341_8 hx341_9 hx342_0 hx342_1 hx342_10 hx342_2 hx342_3 hx342_4 hx342_5 hx342_6 hx342_7 hx342_8 hx342_9 hx343_0 hx343_1 hx343_10 hx343_2 hx343_3 hx343_4 hx343_5 hx343_6 hx343_7 hx343_8 hx343_9 hx344_0 hx344_1 hx344_10 hx344_2 hx344_3 hx344_4 hx344_5 hx344_6 hx344_7 hx344_8 hx344_9 hHeld ⊢
            refine qA 0 65 (bz 44 1) HT_ ?_
            refine qA 2 67 (bz 44 5) HT_ ?_
            refine qA 6 71 (bz 44 69) HT_ ?_
            refine qA 8 73 (bz 44 325) HT_ ?_
            refine qC 1 66 (bz 44 327) HT_ HW_ hHeld ?_ (hy := by rintro w' ⟨s0, s1, s2, s3, s4, s5, s6, s7, s8, s9, s10, s11, s12, s13, s14, s15, s16, s17, s18, s19, s20, s21, s22, s23, s24, s25, s26, s27, s28, s29, s30, s31, s32, s33, s34, s35, s36, s37, s38, s39, s40, s41, s42, s43, s44, s45, s46, s47, s48, s49, s50, s51, s52, s53, s54, s55, s56, s57, s58, s59, s60, s61, s62, s63, s64, s65, s66, s67, s68, s69, s70, s71, s72, s73, s74, s75, s76, s77, s78, s79, s80, s81, s82, s83⟩; go_simp; with_reducible rfl)
            refine qA 3 68 (bz 44 335) HT_ ?_
            refine qA 4 69 (bz 44 351) HT_ ?_
            refine qC 5 70 (bz 44 383) HT_ HW_ hHeld ?_ (hy := by rintro w' ⟨s0, s1, s2, s3, s4, s5, s6, s7, s8, s9, s10, s11, s12, s13, s14, s15, s16, s17, s18, s19, s20, s21, s22, s23, s24, s25, s26, s27, s28, s29, s30, s31, s32, s33, s34, s35, s36, s37, s38, s39, s40, s41, s42, s43, s44, s45, s46, s47, s48, s49, s50, s51, s52, s53, s54, s55, s56, s57, s58, s59, s60, s61, s62, s63, s64, s65, s66, s67, s68, s69, s70, s71, s72, s73, s74, s75, s76, s77, s78, s79, s80, s81, s82, s83⟩; go_simp; with_reducible rfl)
            refine qC 7 72 (bz 44 511) HT_ HW_ hHeld ?_ (hy := by rintro w' ⟨s0, s1, s2, s3, s4, s5, s6, s7, s8, s9, s10, s11, s12, s13, s14, s15, s16, s17, s18, s19, s20, s21, s22, s23, s24, s25, s26, s27, s28, s29, s30, s31, s32, s33, s34, s35, s36, s37, s38, s39, s40, s41, s42, s43, s44, s45, s46, s47, s48, s49, s50, s51, s52, s53, s54, s55, s56, s57, s58, s59, s60, s61, s62, s63, s64, s65, s66, s67, s68, s69, s70, s71, s72, s73, s74, s75, s76, s77, s78, s79, s80, s81, s82, s83⟩; go_simp; with_reducible rfl)
            refine qA 9 74 (bz 44 1023) HT_ ?_
            refine qA 10 75 (bz 44 2047) HT_ ?_
            refine qC 11 76 (bz 44 4095) HT_ HW_ hHeld ?_ (hy := by rintro w' ⟨s0, s1, s2, s3, s4, s5, s6, s7, s8, s9, s10, s11, s12, s13, s14, s15, s16, s17, s18, s19, s20, s21, s22, s23, s24, s25, s26, s27, s28, s29, s30, s31, s32, s33, s34, s35, s36, s37, s38, s39, s40, s41, s42, s43, s44, s45, s46, s47, s48, s49, s50, s51, s52, s53, s54, s55, s56, s57, s58, s59, s60, s61, s62, s63, s64, s65, s66, s67, s68, s69, s70, s71, s72, s73, s74, s75, s76, s77, s78, s79, s80, s81, s82, s83⟩; go_simp; with_reducible rfl)
            refine qA 12 77 (bz 44 8191) HT_ ?_
            refine qA 13 78 (bz 44 16383) HT_ ?_
            refine qA 14 79 (bz 44 32767) HT_ ?_
            refine qA 16 81 (bz 44 98303) HT_ ?_
            refine qA 20 85 (bz 44 1146879) HT_ ?_
            refine qA 22 87 (bz 44 5341183) HT_ ?_
            refine qC 15 80 (bz 44 5373951) HT_ HW_ hHeld ?_ (hy := by rintro w' ⟨s0, s1, s2, s3, s4, s5, s6, s7, s8, s9, s10, s11, s12, s13, s14, s15, s16, s17, s18, s19, s20, s21, s22, s23, s24, s25, s26, s27, s28, s29, s30, s31, s32, s33, s34, s35, s36, s37, s38, s39, s40, s41, s42, s43, s44, s45, s46, s47, s48, s49, s50, s51, s52, s53, s54, s55, s56, s57, s58, s59, s60, s61, s62, s63, s64, s65, s66, s67, s68, s69, s70, s71, s72, s73, s74, s75, s76, s77, s78, s79, s80, s81, s82, s83⟩; go_simp; with_reducible rfl)
            refine qA 17 82 (bz 44 5505023) HT_ ?_
            refine qA 18 83 (bz 44 5767167) HT_ ?_
            refine qC 19 84 (bz 44 6291455) HT_ HW_ hHeld ?_ (hy := by rintro w' ⟨s0, s1, s2, s3, s4, s5, s6, s7, s8, s9, s10, s11, s12, s13, s14, s15, s16, s17, s18, s19, s20, s21, s22, s23, s24, s25, s26, s27, s28, s29, s30, s31, s32, s33, s34, s35, s36, s37, s38, s39, s40, s41, s42, s43, s44, s45, s46, s47, s48, s49, s50, s51, s52, s53, s54, s55, s56, s57, s58, s59, s60, s61, s62, s63, s64, s65, s66, s67, s68, s69, s70, s71, s72, s73, s74, s75, s76, s77, s78, s79, s80, s81, s82, s83⟩; go_simp; with_reducible rfl)
            refine qC 21 86 (bz 44 8388607) HT_ HW_ hHeld ?_ (hy := by rintro w' ⟨s0, s1, s2, s3, s4, s5, s6, s7, s8, s9, s10, s11, s12, s13, s14, s15, s16, s17, s18, s19, s20, s21, s22, s23, s24, s25, s26, s27, s28, s29, s30, s31, s32, s33, s34, s35, s36, s37, s38, s39, s40, s41, s42, s43, s44, s45, s46, s47, s48, s49, s50, s51, s52, s53, s54, s55, s56, s57, s58, s59, s60, s61, s62, s63, s64, s65, s66, s67, s68, s69, s70, s71, s72, s73, s74, s75, s76, s77, s78, s79, s80, s81, s82, s83⟩; go_simp; with_reducible rfl)
            refine qA 23 88 (bz 44 16777215) HT_ ?_
            refine qA 24 89 (bz 44 33554431) HT_ ?_
            refine qC 25 90 (bz 44 67108863) HT_ HW_ hHeld ?_ (hy := by rintro w' ⟨s0, s1, s2, s3, s4, s5, s6, s7, s8, s9, s10, s11, s12, s13, s14, s15, s16, s17, s18, s19, s20, s21, s22, s23, s24, s25, s26, s27, s28, s29, s30, s31, s32, s33, s34, s35, s36, s37, s38, s39, s40, s41, s42, s43, s44, s45, s46, s47, s48, s49, s50, s51, s52, s53, s54, s55, s56, s57, s58, s59, s60, s61, s62, s63, s64, s65, s66, s67, s68, s69, s70, s71, s72, s73, s74, s75, s76, s77, s78, s79, s80, s81, s82, s83⟩; go_simp; with_reducible rfl)
            refine qA 26 91 (bz 44 134217727) HT_ ?_
            refine qA 27 92 (bz 44 268435455) HT_ ?_
            refine qA 28 93 (bz 44 536870911) HT_ ?_
            refine qA 29 94 (bz 44 1073741823) HT_ ?_
            refine qA 31 96 (bz 44 3221225471) HT_ ?_
            refine qA 35 100 (bz 44 37580963839) HT_ ?_
            refine qA 37 102 (bz 44 175019917311) HT_ ?_
            refine qC 30 95 (bz 44 176093659135) HT_ HW_ hHeld ?_ (hy := by rintro w' ⟨s0, s1, s2, s3, s4, s5, s6, s7, s8, s9, s10, s11, s12, s13, s14, s15, s16, s17, s18, s19, s20, s21, s22, s23, s24, s25, s26, s27, s28, s29, s30, s31, s32, s33, s34, s35, s36, s37, s38, s39, s40, s41, s42, s43, s44, s45, s46, s47, s48, s49, s50, s51, s52, s53, s54, s55, s56, s57, s58, s59, s60, s61, s62, s63, s64, s65, s66, s67, s68, s69, s70, s71, s72, s73, s74, s75, s76, s77, s78, s79, s80, s81, s82, s83⟩; go_simp; with_reducible rfl)
            refine qA 32 97 (bz 44 180388626431) HT_ ?_
            refine qA 33 98 (bz 44 188978561023) HT_ ?_
            refine qC 34 99 (bz 44 206158430207) HT_ HW_ hHeld ?_ (hy := by rintro w' ⟨s0, s1, s2, s3, s4, s5, s6, s7, s8, s9, s10, s11, s12, s13, s14, s15, s16, s17, s18, s19, s20, s21, s22, s23, s24, s25, s26, s27, s28, s29, s30, s31, s32, s33, s34, s35, s36, s37, s38, s39, s40, s41, s42, s43, s44, s45, s46, s47, s48, s49, s50, s51, s52, s53, s54, s55, s56, s57, s58, s59, s60, s61, s62, s63, s64, s65, s66, s67, s68, s69, s70, s71, s72, s73, s74, s75, s76, s77, s78, s79, s80, s81, s82, s83⟩; go_simp; with_reducible rfl)
            refine qC 36 101 (bz 44 274877906943) HT_ HW_ hHeld ?_ (hy := by rintro w' ⟨s0, s1, s2, s3, s4, s5, s6, s7, s8, s9, s10, s11, s12, s13, s14, s15, s16, s17, s18, s19, s20, s21, s22, s23, s24, s25, s26, s27, s28, s29, s30, s31, s32, s33, s34, s35, s36, s37, s38, s39, s40, s41, s42, s43, s44, s45, s46, s47, s48, s49, s50, s51, s52, s53, s54, s55, s56, s57, s58, s59, s60, s61, s62, s63, s64, s65, s66, s67, s68, s69, s70, s71, s72, s73, s74, s75, s76, s77, s78, s79, s80, s81, s82, s83⟩; go_simp; with_reducible rfl)
            refine qA 38 103 (bz 44 549755813887) HT_ ?_
            refine qA 39 104 (bz 44 1099511627775) HT_ ?_
            refine qC 40 105 (bz 44 2199023255551) HT_ HW_ hHeld ?_ (hy := by rintro w' ⟨s0, s1, s2, s3, s4, s5, s6, s7, s8, s9, s10, s11, s12, s13, s14, s15, s16, s17, s18, s19, s20, s21, s22, s23, s24, s25, s26, s27, s28, s29, s30, s31, s32, s33, s34, s35, s36, s37, s38, s39, s40, s41, s42, s43, s44, s45, s46, s47, s48, s49, s50, s51, s52, s53, s54, s55, s56, s57, s58, s59, s60, s61, s62, s63, s64, s65, s66, s67, s68, s69, s70, s71, s72, s73, s74, s75, s76, s77, s78, s79, s80, s81, s82, s83⟩; go_simp; with_reducible rfl)
            refine one_ (i := 41) (N := some 106) (bz 44 4398046511103) rfl rfl (one_of HT_.out (by kernel_rfl)) (by decide) (fun K hK => ?_)
            refine goes_ Try.func8 (by kernel_rfl) rfl #[.agg #[.int .i64 ((rd_T64 l0_6 x5_2).f2.f0), .int .i64 ((rd_T64 l0_6 x5_2).f2.f1), .bool ((rd_T64 l0_6 x5_2).f2.f2), .bool ((rd_T64 l0_6 x5_2).f2.f3), .slice A339_6 ((rd_T64 l0_6 x5_2).f2.f4).length c339_6, .slice A339_7 ((rd_T64 l0_6 x5_2).f2.f5).length c339_7, .slice A339_8 ((rd_T64 l0_6 x5_2).f2.f6).length c339_8, .slice A339_9 ((rd_T64 l0_6 x5_2).f2.f7).length c339_9, .int .i64 ((rd_T64 l0_6 x5_2).f2.f8)], .agg #[.int .i64 ((rd_T64 l1_6 x5_2).f2.f0), .int .i64 ((rd_T64 l1_6 x5_2).f2.f1), .bool ((rd_T64 l1_6 x5_2).f2.f2), .bool ((rd_T64 l1_6 x5_2).f2.f3), .slice A340_6 ((rd_T64 l1_6 x5_2).f2.f4).length c340_6, .slice A340_7 ((rd_T64 l1_6 x5_2).f2.f5).length c340_7, .slice A340_8 ((rd_T64 l1_6 x5_2).f2.f6).length c340_8, .slice A340_9 ((rd_T64 l1_6 x5_2).f2.f7).length c340_9, .int .i64 ((rd_T64 l1_6 x5_2).f2.f8)]] (by rfl) rfl rfl (by (try simp only [zK, zL, zM]); first | done | rfl | (simp only [zN, zO]; rfl)) ?_
            with_reducible refine (ih k2 (by have := HJ2.out; have := HK2.out; omega) ((rd_T64 l0_6 x5_2).f2.f0) ((rd_T64 l0_6 x5_2).f2.f1) ((rd_T64 l0_6 x5_2).f2.f2) ((rd_T64 l0_6 x5_2).f2.f3) _ _ ((rd_T64 l0_6 x5_2).f2.f4) _ _ ((rd_T64 l0_6 x5_2).f2.f5) _ _ ((rd_T64 l0_6 x5_2).f2.f6) _ _ ((rd_T64 l0_6 x5_2).f2.f7) ((rd_T64 l0_6 x5_2).f2.f8) ((rd_T64 l1_6 x5_2).f2.f0) ((rd_T64 l1_6 x5_2).f2.f1) ((rd_T64 l1_6 x5_2).f2.f2) ((rd_T64 l1_6 x5_2).f2.f3) _ _ ((rd_T64 l1_6 x5_2).f2.f4) _ _ ((rd_T64 l1_6 x5_2).f2.f5) _ _ ((rd_T64 l1_6 x5_2).f2.f6) _ _ ((rd_T64 l1_6 x5_2).f2.f7) ((rd_T64 l1_6 x5_2).f2.f8) true _ ?side1 ?side2 ?side3 ?side4 ?side5 ?side6 ?side7 ?side8 ?side9 ?side10 ?side11 ?side12 ?side13 ?side14 ?side15 ?side16 A39.out).mono ?_
            (case side1 => exact kV (yY HR343_6.out HB.out))
            (case side2 => exact HC343_6.out)
            (case side3 => exact kV (yY HR343_7.out HB.out))
            (case side4 => exact HC343_7.out)
            (case side5 => exact kV (yY HR343_8.out HB.out))
            (case side6 => exact HC343_8.out)
            (case side7 => exact kV (yY HR343_9.out HB.out))
            (case side8 => exact HC343_9.out)
            (case side9 => exact kV (yY HR344_6.out HB.out))
            (case side10 => exact HC344_6.out)
            (case side11 => exact kV (yY HR344_7.out HB.out))
            (case side12 => exact HC344_7.out)
            (case side13 => exact kV (yY HR344_8.out HB.out))
            (case side14 => exact HC344_8.out)
            (case side15 => exact kV (yY HR344_9.out HB.out))
            (case side16 => exact HC344_9.out)
            rintro e w44 ⟨rfl, hb⟩
            refine ⟨_, rfl, ?_⟩
            have n0_ := yD (zB (kN BK337) hb)
            have n1_ := yD (zB (kN BK338) hb)
            have n2_ := yD (zC (kB HB) hb)
            clear BK337 BK338 HB; have BK337 := n0_; have BK338 := n1_; have HB := n2_; clear n0_ n1_ n2_; (try clear hb); (try clear hb2); (try clear hk); (try clear hi)
            refine hK.out _ _ ⟨(yG BK337.out 0).trans rfl, (yG BK337.out 1).trans rfl, (yG BK337.out 2).trans rfl, (yG BK337.out 3).trans rfl, (yG BK337.out 4).trans rfl, (yG BK337.out 5).trans rfl, (yG BK337.out 6).trans rfl, (yG BK337.out 7).trans rfl, (yG BK337.out 8).trans rfl, (yG BK338.out 0).trans rfl, (yG BK338.out 1).trans rfl, (yG BK338.out 2).trans rfl, (yG BK338.out 3).trans rfl, (yG BK338.out 4).trans rfl, (yG BK338.out 5).trans rfl, (yG BK338.out 6).trans rfl, (yG BK338.out 7).trans rfl, (yG BK338.out 8).trans rfl, ((HB.out.cell (zQ w _ hw339_0)).trans hw339_0), ((HB.out.cell (zQ w _ hw339_1)).trans hw339_1), ((HB.out.cell (zQ w _ hw339_2)).trans hw339_2), ((HB.out.cell (zQ w _ hw339_3)).trans hw339_3), ((HB.out.cell (zQ w _ hw339_4)).trans hw339_4), ((HB.out.cell (zQ w _ hw339_5)).trans hw339_5), ((HB.out.cell (zQ w _ hw339_6)).trans hw339_6), ((HB.out.cell (zQ w _ hw339_7)).trans hw339_7), ((HB.out.cell (zQ w _ hw339_8)).trans hw339_8), ((HB.out.cell (zQ w _ hw339_9)).trans hw339_9), ((HB.out.cell (zQ w _ hw339_10)).trans hw339_10), ((HB.out.cell (zQ w _ hw340_0)).trans hw340_0), ((HB.out.cell (zQ w _ hw340_1)).trans hw340_1), ((HB.out.cell (zQ w _ hw340_2)).trans hw340_2), ((HB.out.cell (zQ w _ hw340_3)).trans hw340_3), ((HB.out.cell (zQ w _ hw340_4)).trans hw340_4), ((HB.out.cell (zQ w _ hw340_5)).trans hw340_5), ((HB.out.cell (zQ w _ hw340_6)).trans hw340_6), ((HB.out.cell (zQ w _ hw340_7)).trans hw340_7), ((HB.out.cell (zQ w _ hw340_8)).trans hw340_8), ((HB.out.cell (zQ w _ hw340_9)).trans hw340_9), ((HB.out.cell (zQ w _ hw340_10)).trans hw340_10), ((HB.out.cell (zQ w _ hw341_0)).trans hw341_0), ((HB.out.cell (zQ w _ hw341_1)).trans hw341_1), ((HB.out.cell (zQ w _ hw341_2)).trans hw341_2), ((HB.out.cell (zQ w _ hw341_3)).trans hw341_3), ((HB.out.cell (zQ w _ hw341_4)).trans hw341_4), ((HB.out.cell (zQ w _ hw341_5)).trans hw341_5), ((HB.out.cell (zQ w _ hw341_6)).trans hw341_6), ((HB.out.cell (zQ w _ hw341_7)).trans hw341_7), ((HB.out.cell (zQ w _ hw341_8)).trans hw341_8), ((HB.out.cell (zQ w _ hw341_9)).trans hw341_9), ((HB.out.cell (zQ w _ hw341_10)).trans hw341_10), ((HB.out.cell (zQ w _ hw342_0)).trans hw342_0), ((HB.out.cell (zQ w _ hw342_1)).trans hw342_1), ((HB.out.cell (zQ w _ hw342_2)).trans hw342_2), ((HB.out.cell (zQ w _ hw342_3)).trans hw342_3), ((HB.out.cell (zQ w _ hw342_4)).trans hw342_4), ((HB.out.cell (zQ w _ hw342_5)).trans hw342_5), ((HB.out.cell (zQ w _ hw342_6)).trans hw342_6), ((HB.out.cell (zQ w _ hw342_7)).trans hw342_7), ((HB.out.cell (zQ w _ hw342_8)).trans hw342_8), ((HB.out.cell (zQ w _ hw342_9)).trans hw342_9), ((HB.out.cell (zQ w _ hw342_10)).trans hw342_10), ((HB.out.cell (zQ w _ hw343_0)).trans hw343_0), ((HB.out.cell (zQ w _ hw343_1)).trans hw343_1), ((HB.out.cell (zQ w _ hw343_2)).trans hw343_2), ((HB.out.cell (zQ w _ hw343_3)).trans hw343_3), ((HB.out.cell (zQ w _ hw343_4)).trans hw343_4), ((HB.out.cell (zQ w _ hw343_5)).trans hw343_5), ((HB.out.cell (zQ w _ hw343_6)).trans hw343_6), ((HB.out.cell (zQ w _ hw343_7)).trans hw343_7), ((HB.out.cell (zQ w _ hw343_8)).trans hw343_8), ((HB.out.cell (zQ w _ hw343_9)).trans hw343_9), ((HB.out.cell (zQ w _ hw343_10)).trans hw343_10), ((HB.out.cell (zQ w _ hw344_0)).trans hw344_0), ((HB.out.cell (zQ w _ hw344_1)).trans hw344_1), ((HB.out.cell (zQ w _ hw344_2)).trans hw344_2), ((HB.out.cell (zQ w _ hw344_3)).trans hw344_3), ((HB.out.cell (zQ w _ hw344_4)).trans hw344_4), ((HB.out.cell (zQ w _ hw344_5)).trans hw344_5), ((HB.out.cell (zQ w _ hw344_6)).trans hw344_6), ((HB.out.cell (zQ w _ hw344_7)).trans hw344_7), ((HB.out.cell (zQ w _ hw344_8)).trans hw344_8), ((HB.out.cell (zQ w _ hw344_9)).trans hw344_9), ((HB.out.cell (zQ w _ hw344_10)).trans hw344_10)⟩ (fun hHeld => ?_)
            clear hK K
            refine norm_ (a' := ?_) ?_ ?_
            rotate_left
            · show Act.put _ (some 106) _ = _
              simp only [Act.put, zH, zI, zJ, i64_w, i32_w]
              rfl
            refine qA 42 107 (bz 44 8796093022207) HT_ ?_
            refine qA 43 108 (bz 44 17592186044415) HT_ ?_
            refine done_ (done_of HT_.out (by kernel_rfl)) ?_
            try go_wp2
            go_roundg k2
            case measure => have := HJ2.out; have := HK2.out; omega
            case rel => exact ⟨(wrap64 (x5_2 + 1)), (by first | rfl | (simp; done) | (simp [*]; done)), H', ⟨by have := HJ2.out; have := HK2.out; omega⟩, ⟨kM BK337⟩, ⟨kM BK338⟩, ⟨kR0 HB⟩⟩
           ·
            replace c40 := Bool.eq_false_iff.mpr c40
            subst c40
            replace H : (some false) = some r := (by rw [if_neg (show ¬ (false = true) by decide)] at H; exact H); obtain rfl := Option.some.inj H; have hnb45 := NB337_338.out; have hnc45 := NB338_337.out
            obtain ⟨hcz46_0, hcz46_1, hcz46_2, hcz46_3, hcz46_4, hcz46_5, hcz46_6, hcz46_7, hcz46_8⟩ := cz9 BK337.out
            obtain ⟨hfz46_0, hfz46_1, hfz46_2, hfz46_3, hfz46_4, hfz46_5, hfz46_6, hfz46_7, hfz46_8⟩ := fz9 BK337.out
            try go_wp2
            have n0_ := yD (yO BK337.out)
            have n1_ := yD (yO BK338.out)
            have n2_ := yD (yP HB.out)
            clear BK337 BK338 HB; have BK337 := n0_; have BK338 := n1_; have HB := n2_; clear n0_ n1_ n2_
            have p339 : 0 ≤ (x5_2 : Int) := zP (by assumption)
            have q339 : x5_2 < (l0_6.length : Int) := zP (by assumption)
            obtain ⟨ad339, A339_6, c339_6, A339_7, c339_7, A339_8, c339_8, A339_9, c339_9, e339, hx339_0, hx339_1, hx339_2, hx339_3, hx339_4, hx339_5, hx339_6, hx339_7, hx339_8, hx339_9, hx339_10, hl339_6, hi339_6, hl339_7, hi339_7, hl339_8, hi339_8, hl339_9, hi339_9⟩ := at_T64 HR0_6.out x5_2 p339 q339
            have hw339_10 := hx339_10; have hw339_9 := hx339_9; have hw339_8 := hx339_8; have hw339_7 := hx339_7; have hw339_6 := hx339_6; have hw339_5 := hx339_5; have hw339_4 := hx339_4; have hw339_3 := hx339_3; have hw339_2 := hx339_2; have hw339_1 := hx339_1; have hw339_0 := hx339_0; cases e339
            replace hx339_0 := kCx3_ HB hx339_0
            replace hx339_1 := kCx3_ HB hx339_1
            replace hx339_2 := kCx3_ HB hx339_2
            replace hx339_3 := kCx3_ HB hx339_3
            replace hx339_4 := kCx3_ HB hx339_4
            replace hx339_5 := kCx3_ HB hx339_5
            replace hx339_6 := kCx3_ HB hx339_6
            replace hx339_7 := kCx3_ HB hx339_7
            replace hx339_8 := kCx3_ HB hx339_8
            replace hx339_9 := kCx3_ HB hx339_9
            replace hx339_10 := kCx3_ HB hx339_10
            have HR339_6 := yD hi339_6
            have HC339_6 := yD hl339_6
            clear hi339_6 hl339_6
            have HR339_7 := yD hi339_7
            have HC339_7 := yD hl339_7
            clear hi339_7 hl339_7
            have HR339_8 := yD hi339_8
            have HC339_8 := yD hl339_8
            clear hi339_8 hl339_8
            have HR339_9 := yD hi339_9
            have HC339_9 := yD hl339_9
            clear hi339_9 hl339_9; replace p339 := eq_true p339; replace q339 := eq_true q339
            have p340 : 0 ≤ (x5_2 : Int) := zP (by assumption)
            have q340 : x5_2 < (l1_6.length : Int) := zP (by assumption)
            obtain ⟨ad340, A340_6, c340_6, A340_7, c340_7, A340_8, c340_8, A340_9, c340_9, e340, hx340_0, hx340_1, hx340_2, hx340_3, hx340_4, hx340_5, hx340_6, hx340_7, hx340_8, hx340_9, hx340_10, hl340_6, hi340_6, hl340_7, hi340_7, hl340_8, hi340_8, hl340_9, hi340_9⟩ := at_T64 HR1_6.out x5_2 p340 q340
            have hw340_10 := hx340_10; have hw340_9 := hx340_9; have hw340_8 := hx340_8; have hw340_7 := hx340_7; have hw340_6 := hx340_6; have hw340_5 := hx340_5; have hw340_4 := hx340_4; have hw340_3 := hx340_3; have hw340_2 := hx340_2; have hw340_1 := hx340_1; have hw340_0 := hx340_0; cases e340
            replace hx340_0 := kCx3_ HB hx340_0
            replace hx340_1 := kCx3_ HB hx340_1
            replace hx340_2 := kCx3_ HB hx340_2
            replace hx340_3 := kCx3_ HB hx340_3
            replace hx340_4 := kCx3_ HB hx340_4
            replace hx340_5 := kCx3_ HB hx340_5
            replace hx340_6 := kCx3_ HB hx340_6
            replace hx340_7 := kCx3_ HB hx340_7
            replace hx340_8 := kCx3_ HB hx340_8
            replace hx340_9 := kCx3_ HB hx340_9
            replace hx340_10 := kCx3_ HB hx340_10
            have HR340_6 := yD hi340_6
            have HC340_6 := yD hl340_6
            clear hi340_6 hl340_6
            have HR340_7 := yD hi340_7
            have HC340_7 := yD hl340_7
            clear hi340_7 hl340_7
            have HR340_8 := yD hi340_8
            have HC340_8 := yD hl340_8
            clear hi340_8 hl340_8
            have HR340_9 := yD hi340_9
            have HC340_9 := yD hl340_9
            clear hi340_9 hl340_9; replace p340 := eq_true p340; replace q340 := eq_true q340
            have p341 : 0 ≤ (x5_2 : Int) := zP (by assumption)
            have q341 : x5_2 < (l0_6.length : Int) := zP (by assumption)
            obtain ⟨ad341, A341_6, c341_6, A341_7, c341_7, A341_8, c341_8, A341_9, c341_9, e341, hx341_0, hx341_1, hx341_2, hx341_3, hx341_4, hx341_5, hx341_6, hx341_7, hx341_8, hx341_9, hx341_10, hl341_6, hi341_6, hl341_7, hi341_7, hl341_8, hi341_8, hl341_9, hi341_9⟩ := at_T64 HR0_6.out x5_2 p341 q341
            have hw341_10 := hx341_10; have hw341_9 := hx341_9; have hw341_8 := hx341_8; have hw341_7 := hx341_7; have hw341_6 := hx341_6; have hw341_5 := hx341_5; have hw341_4 := hx341_4; have hw341_3 := hx341_3; have hw341_2 := hx341_2; have hw341_1 := hx341_1; have hw341_0 := hx341_0
            obtain rfl : ad339 = ad341 := (by injection e341)
            replace hx341_0 := kCx3_ HB hx341_0
            replace hx341_1 := kCx3_ HB hx341_1
            replace hx341_2 := kCx3_ HB hx341_2
            replace hx341_3 := kCx3_ HB hx341_3
            replace hx341_4 := kCx3_ HB hx341_4
            replace hx341_5 := kCx3_ HB hx341_5
            replace hx341_6 := kCx3_ HB hx341_6
            replace hx341_7 := kCx3_ HB hx341_7
            replace hx341_8 := kCx3_ HB hx341_8
            replace hx341_9 := kCx3_ HB hx341_9
            replace hx341_10 := kCx3_ HB hx341_10
            have HR341_6 := yD hi341_6
            have HC341_6 := yD hl341_6
            clear hi341_6 hl341_6
            have HR341_7 := yD hi341_7
            have HC341_7 := yD hl341_7
            clear hi341_7 hl341_7
            have HR341_8 := yD hi341_8
            have HC341_8 := yD hl341_8
            clear hi341_8 hl341_8
            have HR341_9 := yD hi341_9
            have HC341_9 := yD hl341_9
            clear hi341_9 hl341_9; replace p341 := eq_true p341; replace q341 := eq_true q341
            have ea_ := Option.some.inj (hx339_6.symm.trans hx341_6)
            injection ea_ with ea_ en_ ec_
            subst ea_; subst ec_; clear en_
            have ea_ := Option.some.inj (hx339_7.symm.trans hx341_7)
            injection ea_ with ea_ en_ ec_
            subst ea_; subst ec_; clear en_
            have ea_ := Option.some.inj (hx339_8.symm.trans hx341_8)
            injection ea_ with ea_ en_ ec_
            subst ea_; subst ec_; clear en_
            have ea_ := Option.some.inj (hx339_9.symm.trans hx341_9)
            injection ea_ with ea_ en_ ec_
            subst ea_; subst ec_; clear en_
            have p342 : 0 ≤ (x5_2 : Int) := zP (by assumption)
            have q342 : x5_2 < (l1_6.length : Int) := zP (by assumption)
            obtain ⟨ad342, A342_6, c342_6, A342_7, c342_7, A342_8, c342_8, A342_9, c342_9, e342, hx342_0, hx342_1, hx342_2, hx342_3, hx342_4, hx342_5, hx342_6, hx342_7, hx342_8, hx342_9, hx342_10, hl342_6, hi342_6, hl342_7, hi342_7, hl342_8, hi342_8, hl342_9, hi342_9⟩ := at_T64 HR1_6.out x5_2 p342 q342
            have hw342_10 := hx342_10; have hw342_9 := hx342_9; have hw342_8 := hx342_8; have hw342_7 := hx342_7; have hw342_6 := hx342_6; have hw342_5 := hx342_5; have hw342_4 := hx342_4; have hw342_3 := hx342_3; have hw342_2 := hx342_2; have hw342_1 := hx342_1; have hw342_0 := hx342_0
            obtain rfl : ad340 = ad342 := (by injection e342)
            replace hx342_0 := kCx3_ HB hx342_0
            replace hx342_1 := kCx3_ HB hx342_1
            replace hx342_2 := kCx3_ HB hx342_2
            replace hx342_3 := kCx3_ HB hx342_3
            replace hx342_4 := kCx3_ HB hx342_4
            replace hx342_5 := kCx3_ HB hx342_5
            replace hx342_6 := kCx3_ HB hx342_6
            replace hx342_7 := kCx3_ HB hx342_7
            replace hx342_8 := kCx3_ HB hx342_8
            replace hx342_9 := kCx3_ HB hx342_9
            replace hx342_10 := kCx3_ HB hx342_10
            have HR342_6 := yD hi342_6
            have HC342_6 := yD hl342_6
            clear hi342_6 hl342_6
            have HR342_7 := yD hi342_7
            have HC342_7 := yD hl342_7
            clear hi342_7 hl342_7
            have HR342_8 := yD hi342_8
            have HC342_8 := yD hl342_8
            clear hi342_8 hl342_8
            have HR342_9 := yD hi342_9
            have HC342_9 := yD hl342_9
            clear hi342_9 hl342_9; replace p342 := eq_true p342; replace q342 := eq_true q342
            have ea_ := Option.some.inj (hx340_6.symm.trans hx342_6)
            injection ea_ with ea_ en_ ec_
            subst ea_; subst ec_; clear en_
            have ea_ := Option.some.inj (hx340_7.symm.trans hx342_7)
            injection ea_ with ea_ en_ ec_
            subst ea_; subst ec_; clear en_
            have ea_ := Option.some.inj (hx340_8.symm.trans hx342_8)
            injection ea_ with ea_ en_ ec_
            subst ea_; subst ec_; clear en_
            have ea_ := Option.some.inj (hx340_9.symm.trans hx342_9)
            injection ea_ with ea_ en_ ec_
            subst ea_; subst ec_; clear en_
            have p343 : 0 ≤ (x5_2 : Int) := zP (by assumption)
            have q343 : x5_2 < (l0_6.length : Int) := zP (by assumption)
            obtain ⟨ad343, A343_6, c343_6, A343_7, c343_7, A343_8, c343_8, A343_9, c343_9, e343, hx343_0, hx343_1, hx343_2, hx343_3, hx343_4, hx343_5, hx343_6, hx343_7, hx343_8, hx343_9, hx343_10, hl343_6, hi343_6, hl343_7, hi343_7, hl343_8, hi343_8, hl343_9, hi343_9⟩ := at_T64 HR0_6.out x5_2 p343 q343
            have hw343_10 := hx343_10; have hw343_9 := hx343_9; have hw343_8 := hx343_8; have hw343_7 := hx343_7; have hw343_6 := hx343_6; have hw343_5 := hx343_5; have hw343_4 := hx343_4; have hw343_3 := hx343_3; have hw343_2 := hx343_2; have hw343_1 := hx343_1; have hw343_0 := hx343_0
            obtain rfl : ad339 = ad343 := (by injection e343)
            replace hx343_0 := kCx3_ HB hx343_0
            replace hx343_1 := kCx3_ HB hx343_1
            replace hx343_2 := kCx3_ HB hx343_2
            replace hx343_3 := kCx3_ HB hx343_3
            replace hx343_4 := kCx3_ HB hx343_4
            replace hx343_5 := kCx3_ HB hx343_5
            replace hx343_6 := kCx3_ HB hx343_6
            replace hx343_7 := kCx3_ HB hx343_7
            replace hx343_8 := kCx3_ HB hx343_8
            replace hx343_9 := kCx3_ HB hx343_9
            replace hx343_10 := kCx3_ HB hx343_10
            have HR343_6 := yD hi343_6
            have HC343_6 := yD hl343_6
            clear hi343_6 hl343_6
            have HR343_7 := yD hi343_7
            have HC343_7 := yD hl343_7
            clear hi343_7 hl343_7
            have HR343_8 := yD hi343_8
            have HC343_8 := yD hl343_8
            clear hi343_8 hl343_8
            have HR343_9 := yD hi343_9
            have HC343_9 := yD hl343_9
            clear hi343_9 hl343_9; replace p343 := eq_true p343; replace q343 := eq_true q343
            have ea_ := Option.some.inj (hx339_6.symm.trans hx343_6)
            injection ea_ with ea_ en_ ec_
            subst ea_; subst ec_; clear en_
            have ea_ := Option.some.inj (hx339_7.symm.trans hx343_7)
            injection ea_ with ea_ en_ ec_
            subst ea_; subst ec_; clear en_
            have ea_ := Option.some.inj (hx339_8.symm.trans hx343_8)
            injection ea_ with ea_ en_ ec_
            subst ea_; subst ec_; clear en_
            have ea_ := Option.some.inj (hx339_9.symm.trans hx343_9)
            injection ea_ with ea_ en_ ec_
            subst ea_; subst ec_; clear en_
            have p344 : 0 ≤ (x5_2 : Int) := zP (by assumption)
            have q344 : x5_2 < (l1_6.length : Int) := zP (by assumption)
            obtain ⟨ad344, A344_6, c344_6, A344_7, c344_7, A344_8, c344_8, A344_9, c344_9, e344, hx344_0, hx344_1, hx344_2, hx344_3, hx344_4, hx344_5, hx344_6, hx344_7, hx344_8, hx344_9, hx344_10, hl344_6, hi344_6, hl344_7, hi344_7, hl344_8, hi344_8, hl344_9, hi344_9⟩ := at_T64 HR1_6.out x5_2 p344 q344
            have hw344_10 := hx344_10; have hw344_9 := hx344_9; have hw344_8 := hx344_8; have hw344_7 := hx344_7; have hw344_6 := hx344_6; have hw344_5 := hx344_5; have hw344_4 := hx344_4; have hw344_3 := hx344_3; have hw344_2 := hx344_2; have hw344_1 := hx344_1; have hw344_0 := hx344_0
            obtain rfl : ad340 = ad344 := (by injection e344)
            replace hx344_0 := kCx3_ HB hx344_0
            replace hx344_1 := kCx3_ HB hx344_1
            replace hx344_2 := kCx3_ HB hx344_2
            replace hx344_3 := kCx3_ HB hx344_3
            replace hx344_4 := kCx3_ HB hx344_4
            replace hx344_5 := kCx3_ HB hx344_5
            replace hx344_6 := kCx3_ HB hx344_6
            replace hx344_7 := kCx3_ HB hx344_7
            replace hx344_8 := kCx3_ HB hx344_8
            replace hx344_9 := kCx3_ HB hx344_9
            replace hx344_10 := kCx3_ HB hx344_10
            have HR344_6 := yD hi344_6
            have HC344_6 := yD hl344_6
            clear hi344_6 hl344_6
            have HR344_7 := yD hi344_7
            have HC344_7 := yD hl344_7
            clear hi344_7 hl344_7
            have HR344_8 := yD hi344_8
            have HC344_8 := yD hl344_8
            clear hi344_8 hl344_8
            have HR344_9 := yD hi344_9
            have HC344_9 := yD hl344_9
            clear hi344_9 hl344_9; replace p344 := eq_true p344; replace q344 := eq_true q344
            have ea_ := Option.some.inj (hx340_6.symm.trans hx344_6)
            injection ea_ with ea_ en_ ec_
            subst ea_; subst ec_; clear en_
            have ea_ := Option.some.inj (hx340_7.symm.trans hx344_7)
            injection ea_ with ea_ en_ ec_
            subst ea_; subst ec_; clear en_
            have ea_ := Option.some.inj (hx340_8.symm.trans hx344_8)
            injection ea_ with ea_ en_ ec_
            subst ea_; subst ec_; clear en_
            have ea_ := Option.some.inj (hx340_9.symm.trans hx344_9)
            injection ea_ with ea_ en_ ec_
            subst ea_; subst ec_; clear en_
            refine start_ (n := 44) (S := fun w' => w'.cell? ⟨gb337, 0, none⟩ = some (.int .i64 a0_0) ∧ w'.cell? ⟨gb337, 1, none⟩ = some (.int .i64 a0_1) ∧ w'.cell? ⟨gb337, 2, none⟩ = some (.bool a0_2) ∧ w'.cell? ⟨gb337, 3, none⟩ = some (.bool a0_3) ∧ w'.cell? ⟨gb337, 4, none⟩ = some (.slice A0_4 l0_4.length c0_4) ∧ w'.cell? ⟨gb337, 5, none⟩ = some (.slice A0_5 l0_5.length c0_5) ∧ w'.cell? ⟨gb337, 6, none⟩ = some (.slice (some ad339) l0_6.length c0_6) ∧ w'.cell? ⟨gb337, 7, none⟩ = some (.slice A0_7 l0_7.length c0_7) ∧ w'.cell? ⟨gb337, 8, none⟩ = some (.int .i64 a0_8) ∧ w'.cell? ⟨gb338, 0, none⟩ = some (.int .i64 a1_0) ∧ w'.cell? ⟨gb338, 1, none⟩ = some (.int .i64 a1_1) ∧ w'.cell? ⟨gb338, 2, none⟩ = some (.bool a1_2) ∧ w'.cell? ⟨gb338, 3, none⟩ = some (.bool a1_3) ∧ w'.cell? ⟨gb338, 4, none⟩ = some (.slice A1_4 l1_4.length c1_4) ∧ w'.cell? ⟨gb338, 5, none⟩ = some (.slice A1_5 l1_5.length c1_5) ∧ w'.cell? ⟨gb338, 6, none⟩ = some (.slice (some ad340) l1_6.length c1_6) ∧ w'.cell? ⟨gb338, 7, none⟩ = some (.slice A1_7 l1_7.length c1_7) ∧ w'.cell? ⟨gb338, 8, none⟩ = some (.int .i64 a1_8) ∧ w'.cell? (ad339.add ((x5_2).toNat * 11)) = some (.string ((rd_T64 l0_6 x5_2).f0)) ∧ w'.cell? ⟨(ad339.add ((x5_2).toNat * 11)).block, (ad339.add ((x5_2).toNat * 11)).off + 1, none⟩ = some (.int .i64 ((rd_T64 l0_6 x5_2).f1)) ∧ w'.cell? ⟨(ad339.add ((x5_2).toNat * 11)).block, (ad339.add ((x5_2).toNat * 11)).off + 2, none⟩ = some (.int .i64 ((rd_T64 l0_6 x5_2).f2.f0)) ∧ w'.cell? ⟨(ad339.add ((x5_2).toNat * 11)).block, (ad339.add ((x5_2).toNat * 11)).off + 3, none⟩ = some (.int .i64 ((rd_T64 l0_6 x5_2).f2.f1)) ∧ w'.cell? ⟨(ad339.add ((x5_2).toNat * 11)).block, (ad339.add ((x5_2).toNat * 11)).off + 4, none⟩ = some (.bool ((rd_T64 l0_6 x5_2).f2.f2)) ∧ w'.cell? ⟨(ad339.add ((x5_2).toNat * 11)).block, (ad339.add ((x5_2).toNat * 11)).off + 5, none⟩ = some (.bool ((rd_T64 l0_6 x5_2).f2.f3)) ∧ w'.cell? ⟨(ad339.add ((x5_2).toNat * 11)).block, (ad339.add ((x5_2).toNat * 11)).off + 6, none⟩ = some (.slice A339_6 ((rd_T64 l0_6 x5_2).f2.f4).length c339_6) ∧ w'.cell? ⟨(ad339.add ((x5_2).toNat * 11)).block, (ad339.add ((x5_2).toNat * 11)).off + 7, none⟩ = some (.slice A339_7 ((rd_T64 l0_6 x5_2).f2.f5).length c339_7) ∧ w'.cell? ⟨(ad339.add ((x5_2).toNat * 11)).block, (ad339.add ((x5_2).toNat * 11)).off + 8, none⟩ = some (.slice A339_8 ((rd_T64 l0_6 x5_2).f2.f6).length c339_8) ∧ w'.cell? ⟨(ad339.add ((x5_2).toNat * 11)).block, (ad339.add ((x5_2).toNat * 11)).off + 9, none⟩ = some (.slice A339_9 ((rd_T64 l0_6 x5_2).f2.f7).length c339_9) ∧ w'.cell? ⟨(ad339.add ((x5_2).toNat * 11)).block, (ad339.add ((x5_2).toNat * 11)).off + 10, none⟩ = some (.int .i64 ((rd_T64 l0_6 x5_2).f2.f8)) ∧ w'.cell? (ad340.add ((x5_2).toNat * 11)) = some (.string ((rd_T64 l1_6 x5_2).f0)) ∧ w'.cell? ⟨(ad340.add ((x5_2).toNat * 11)).block, (ad340.add ((x5_2).toNat * 11)).off + 1, none⟩ = some (.int .i64 ((rd_T64 l1_6 x5_2).f1)) ∧ w'.cell? ⟨(ad340.add ((x5_2).toNat * 11)).block, (ad340.add ((x5_2).toNat * 11)).off + 2, none⟩ = some (.int .i64 ((rd_T64 l1_6 x5_2).f2.f0)) ∧ w'.cell? ⟨(ad340.add ((x5_2).toNat * 11)).block, (ad340.add ((x5_2).toNat * 11)).off + 3, none⟩ = some (.int .i64 ((rd_T64 l1_6 x5_2).f2.f1)) ∧ w'.cell? ⟨(ad340.add ((x5_2).toNat * 11)).block, (ad340.add ((x5_2).toNat * 11)).off + 4, none⟩ = some (.bool ((rd_T64 l1_6 x5_2).f2.f2)) ∧ w'.cell? ⟨(ad340.add ((x5_2).toNat * 11)).block, (ad340.add ((x5_2).toNat * 11)).off + 5, none⟩ = some (.bool ((rd_T64 l1_6 x5_2).f2.f3)) ∧ w'.cell? ⟨(ad340.add ((x5_2).toNat * 11)).block, (ad340.add ((x5_2).toNat * 11)).off + 6, none⟩ = some (.slice A340_6 ((rd_T64 l1_6 x5_2).f2.f4).length c340_6) ∧ w'.cell? ⟨(ad340.add ((x5_2).toNat * 11)).block, (ad340.add ((x5_2).toNat * 11)).off + 7, none⟩ = some (.slice A340_7 ((rd_T64 l1_6 x5_2).f2.f5).length c340_7) ∧ w'.cell? ⟨(ad340.add ((x5_2).toNat * 11)).block, (ad340.add ((x5_2).toNat * 11)).off + 8, none⟩ = some (.slice A340_8 ((rd_T64 l1_6 x5_2).f2.f6).length c340_8) ∧ w'.cell? ⟨(ad340.add ((x5_2).toNat * 11)).block, (ad340.add ((x5_2).toNat * 11)).off + 9, none⟩ = some (.slice A340_9 ((rd_T64 l1_6 x5_2).f2.f7).length c340_9) ∧ w'.cell? ⟨(ad340.add ((x5_2).toNat * 11)).block, (ad340.add ((x5_2).toNat * 11)).off + 10, none⟩ = some (.int .i64 ((rd_T64 l1_6 x5_2).f2.f8)) ∧ w'.cell? (ad339.add ((x5_2).toNat * 11)) = some (.string ((rd_T64 l0_6 x5_2).f0)) ∧ w'.cell? ⟨(ad339.add ((x5_2).toNat * 11)).block, (ad339.add ((x5_2).toNat * 11)).off + 1, none⟩ = some (.int .i64 ((rd_T64 l0_6 x5_2).f1)) ∧ w'.cell? ⟨(ad339.add ((x5_2).toNat * 11)).block, (ad339.add ((x5_2).toNat * 11)).off + 2, none⟩ = some (.int .i64 ((rd_T64 l0_6 x5_2).f2.f0)) ∧ w'.cell? ⟨(ad339.add ((x5_2).toNat * 11)).block, (ad339.add ((x5_2).toNat * 11)).off + 3, none⟩ = some (.int .i64 ((rd_T64 l0_6 x5_2).f2.f1)) ∧ w'.cell? ⟨(ad339.add ((x5_2).toNat * 11)).block, (ad339.add ((x5_2).toNat * 11)).off + 4, none⟩ = some (.bool ((rd_T64 l0_6 x5_2).f2.f2)) ∧ w'.cell? ⟨(ad339.add ((x5_2).toNat * 11)).block, (ad339.add ((x5_2).toNat * 11)).off + 5, none⟩ = some (.bool ((rd_T64 l0_6 x5_2).f2.f3)) ∧ w'.cell? ⟨(ad339.add ((x5_2).toNat * 11)).block, (ad339.add ((x5_2).toNat * 11)).off + 6, none⟩ = some (.slice A339_6 ((rd_T64 l0_6 x5_2).f2.f4).length c339_6) ∧ w'.cell? ⟨(ad339.add ((x5_2).toNat * 11)).block, (ad339.add ((x5_2).toNat * 11)).off + 7, none⟩ = some (.slice A339_7 ((rd_T64 l0_6 x5_2).f2.f5).length c339_7) ∧ w'.cell? ⟨(ad339.add ((x5_2).toNat * 11)).block, (ad339.add ((x5_2).toNat * 11)).off + 8, none⟩ = some (.slice A339_8 ((rd_T64 l0_6 x5_2).f2.f6).length c339_8) ∧ w'.cell? ⟨(ad339.add ((x5_2).toNat * 11)).block, (ad339.add ((x5_2).toNat * 11)).off + 9, none⟩ = some (.slice A339_9 ((rd_T64 l0_6 x5_2).f2.f7).length c339_9) ∧ w'.cell? ⟨(ad339.add ((x5_2).toNat * 11)).block, (ad339.add ((x5_2).toNat * 11)).off + 10, none⟩ = some (.int .i64 ((rd_T64 l0_6 x5_2).f2.f8)) ∧ w'.cell? (ad340.add ((x5_2).toNat * 11)) = some (.string ((rd_T64 l1_6 x5_2).f0)) ∧ w'.cell? ⟨(ad340.add ((x5_2).toNat * 11)).block, (ad340.add ((x5_2).toNat * 11)).off + 1, none⟩ = some (.int .i64 ((rd_T64 l1_6 x5_2).f1)) ∧ w'.cell? ⟨(ad340.add ((x5_2).toNat * 11)).block, (ad340.add ((x5_2).toNat * 11)).off + 2, none⟩ = some (.int .i64 ((rd_T64 l1_6 x5_2).f2.f0)) ∧ w'.cell? ⟨(ad340.add ((x5_2).toNat * 11)).block, (ad340.add ((x5_2).toNat * 11)).off + 3, none⟩ = some (.int .i64 ((rd_T64 l1_6 x5_2).f2.f1)) ∧ w'.cell? ⟨(ad340.add ((x5_2).toNat * 11)).block, (ad340.add ((x5_2).toNat * 11)).off + 4, none⟩ = some (.bool ((rd_T64 l1_6 x5_2).f2.f2)) ∧ w'.cell? ⟨(ad340.add ((x5_2).toNat * 11)).block, (ad340.add ((x5_2).toNat * 11)).off + 5, none⟩ = some (.bool ((rd_T64 l1_6 x5_2).f2.f3)) ∧ w'.cell? ⟨(ad340.add ((x5_2).toNat * 11)).block, (ad340.add ((x5_2).toNat * 11)).off + 6, none⟩ = some (.slice A340_6 ((rd_T64 l1_6 x5_2).f2.f4).length c340_6) ∧ w'.cell? ⟨(ad340.add ((x5_2).toNat * 11)).block, (ad340.add ((x5_2).toNat * 11)).off + 7, none⟩ = some (.slice A340_7 ((rd_T64 l1_6 x5_2).f2.f5).length c340_7) ∧ w'.cell? ⟨(ad340.add ((x5_2).toNat * 11)).block, (ad340.add ((x5_2).toNat * 11)).off + 8, none⟩ = some (.slice A340_8 ((rd_T64 l1_6 x5_2).f2.f6).length c340_8) ∧ w'.cell? ⟨(ad340.add ((x5_2).toNat * 11)).block, (ad340.add ((x5_2).toNat * 11)).off + 9, none⟩ = some (.slice A340_9 ((rd_T64 l1_6 x5_2).f2.f7).length c340_9) ∧ w'.cell? ⟨(ad340.add ((x5_2).toNat * 11)).block, (ad340.add ((x5_2).toNat * 11)).off + 10, none⟩ = some (.int .i64 ((rd_T64 l1_6 x5_2).f2.f8)) ∧ w'.cell? (ad339.add ((x5_2).toNat * 11)) = some (.string ((rd_T64 l0_6 x5_2).f0)) ∧ w'.cell? ⟨(ad339.add ((x5_2).toNat * 11)).block, (ad339.add ((x5_2).toNat * 11)).off + 1, none⟩ = some (.int .i64 ((rd_T64 l0_6 x5_2).f1)) ∧ w'.cell? ⟨(ad339.add ((x5_2).toNat * 11)).block, (ad339.add ((x5_2).toNat * 11)).off + 2, none⟩ = some (.int .i64 ((rd_T64 l0_6 x5_2).f2.f0)) ∧ w'.cell? ⟨(ad339.add ((x5_2).toNat * 11)).block, (ad339.add ((x5_2).toNat * 11)).off + 3, none⟩ = some (.int .i64 ((rd_T64 l0_6 x5_2).f2.f1)) ∧ w'.cell? ⟨(ad339.add ((x5_2).toNat * 11)).block, (ad339.add ((x5_2).toNat * 11)).off + 4, none⟩ = some (.bool ((rd_T64 l0_6 x5_2).f2.f2)) ∧ w'.cell? ⟨(ad339.add ((x5_2).toNat * 11)).block, (ad339.add ((x5_2).toNat * 11)).off + 5, none⟩ = some (.bool ((rd_T64 l0_6 x5_2).f2.f3)) ∧ w'.cell? ⟨(ad339.add ((x5_2).toNat * 11)).block, (ad339.add ((x5_2).toNat * 11)).off + 6, none⟩ = some (.slice A339_6 ((rd_T64 l0_6 x5_2).f2.f4).length c339_6) ∧ w'.cell? ⟨(ad339.add ((x5_2).toNat * 11)).block, (ad339.add ((x5_2).toNat * 11)).off + 7, none⟩ = some (.slice A339_7 ((rd_T64 l0_6 x5_2).f2.f5).length c339_7) ∧ w'.cell? ⟨(ad339.add ((x5_2).toNat * 11)).block, (ad339.add ((x5_2).toNat * 11)).off + 8, none⟩ = some (.slice A339_8 ((rd_T64 l0_6 x5_2).f2.f6).length c339_8) ∧ w'.cell? ⟨(ad339.add ((x5_2).toNat * 11)).block, (ad339.add ((x5_2).toNat * 11)).off + 9, none⟩ = some (.slice A339_9 ((rd_T64 l0_6 x5_2).f2.f7).length c339_9) ∧ w'.cell? ⟨(ad339.add ((x5_2).toNat * 11)).block, (ad339.add ((x5_2).toNat * 11)).off + 10, none⟩ = some (.int .i64 ((rd_T64 l0_6 x5_2).f2.f8)) ∧ w'.cell? (ad340.add ((x5_2).toNat * 11)) = some (.string ((rd_T64 l1_6 x5_2).f0)) ∧ w'.cell? ⟨(ad340.add ((x5_2).toNat * 11)).block, (ad340.add ((x5_2).toNat * 11)).off + 1, none⟩ = some (.int .i64 ((rd_T64 l1_6 x5_2).f1)) ∧ w'.cell? ⟨(ad340.add ((x5_2).toNat * 11)).block, (ad340.add ((x5_2).toNat * 11)).off + 2, none⟩ = some (.int .i64 ((rd_T64 l1_6 x5_2).f2.f0)) ∧ w'.cell? ⟨(ad340.add ((x5_2).toNat * 11)).block, (ad340.add ((x5_2).toNat * 11)).off + 3, none⟩ = some (.int .i64 ((rd_T64 l1_6 x5_2).f2.f1)) ∧ w'.cell? ⟨(ad340.add ((x5_2).toNat * 11)).block, (ad340.add ((x5_2).toNat * 11)).off + 4, none⟩ = some (.bool ((rd_T64 l1_6 x5_2).f2.f2)) ∧ w'.cell? ⟨(ad340.add ((x5_2).toNat * 11)).block, (ad340.add ((x5_2).toNat * 11)).off + 5, none⟩ = some (.bool ((rd_T64 l1_6 x5_2).f2.f3)) ∧ w'.cell? ⟨(ad340.add ((x5_2).toNat * 11)).block, (ad340.add ((x5_2).toNat * 11)).off + 6, none⟩ = some (.slice A340_6 ((rd_T64 l1_6 x5_2).f2.f4).length c340_6) ∧ w'.cell? ⟨(ad340.add ((x5_2).toNat * 11)).block, (ad340.add ((x5_2).toNat * 11)).off + 7, none⟩ = some (.slice A340_7 ((rd_T64 l1_6 x5_2).f2.f5).length c340_7) ∧ w'.cell? ⟨(ad340.add ((x5_2).toNat * 11)).block, (ad340.add ((x5_2).toNat * 11)).off + 8, none⟩ = some (.slice A340_8 ((rd_T64 l1_6 x5_2).f2.f6).length c340_8) ∧ w'.cell? ⟨(ad340.add ((x5_2).toNat * 11)).block, (ad340.add ((x5_2).toNat * 11)).off + 9, none⟩ = some (.slice A340_9 ((rd_T64 l1_6 x5_2).f2.f7).length c340_9) ∧ w'.cell? ⟨(ad340.add ((x5_2).toNat * 11)).block, (ad340.add ((x5_2).toNat * 11)).off + 10, none⟩ = some (.int .i64 ((rd_T64 l1_6 x5_2).f2.f8))) (ds := []) (bz 44 0) (by kernel_rfl) rfl rfl ⟨(yG BK337.out 0).trans rfl, (yG BK337.out 1).trans rfl, (yG BK337.out 2).trans rfl, (yG BK337.out 3).trans rfl, (yG BK337.out 4).trans rfl, (yG BK337.out 5).trans rfl, (yG BK337.out 6).trans rfl, (yG BK337.out 7).trans rfl, (yG BK337.out 8).trans rfl, (yG BK338.out 0).trans rfl, (yG BK338.out 1).trans rfl, (yG BK338.out 2).trans rfl, (yG BK338.out 3).trans rfl, (yG BK338.out 4).trans rfl, (yG BK338.out 5).trans rfl, (yG BK338.out 6).trans rfl, (yG BK338.out 7).trans rfl, (yG BK338.out 8).trans rfl, ((HB.out.cell (zQ w _ hw339_0)).trans hw339_0), ((HB.out.cell (zQ w _ hw339_1)).trans hw339_1), ((HB.out.cell (zQ w _ hw339_2)).trans hw339_2), ((HB.out.cell (zQ w _ hw339_3)).trans hw339_3), ((HB.out.cell (zQ w _ hw339_4)).trans hw339_4), ((HB.out.cell (zQ w _ hw339_5)).trans hw339_5), ((HB.out.cell (zQ w _ hw339_6)).trans hw339_6), ((HB.out.cell (zQ w _ hw339_7)).trans hw339_7), ((HB.out.cell (zQ w _ hw339_8)).trans hw339_8), ((HB.out.cell (zQ w _ hw339_9)).trans hw339_9), ((HB.out.cell (zQ w _ hw339_10)).trans hw339_10), ((HB.out.cell (zQ w _ hw340_0)).trans hw340_0), ((HB.out.cell (zQ w _ hw340_1)).trans hw340_1), ((HB.out.cell (zQ w _ hw340_2)).trans hw340_2), ((HB.out.cell (zQ w _ hw340_3)).trans hw340_3), ((HB.out.cell (zQ w _ hw340_4)).trans hw340_4), ((HB.out.cell (zQ w _ hw340_5)).trans hw340_5), ((HB.out.cell (zQ w _ hw340_6)).trans hw340_6), ((HB.out.cell (zQ w _ hw340_7)).trans hw340_7), ((HB.out.cell (zQ w _ hw340_8)).trans hw340_8), ((HB.out.cell (zQ w _ hw340_9)).trans hw340_9), ((HB.out.cell (zQ w _ hw340_10)).trans hw340_10), ((HB.out.cell (zQ w _ hw341_0)).trans hw341_0), ((HB.out.cell (zQ w _ hw341_1)).trans hw341_1), ((HB.out.cell (zQ w _ hw341_2)).trans hw341_2), ((HB.out.cell (zQ w _ hw341_3)).trans hw341_3), ((HB.out.cell (zQ w _ hw341_4)).trans hw341_4), ((HB.out.cell (zQ w _ hw341_5)).trans hw341_5), ((HB.out.cell (zQ w _ hw341_6)).trans hw341_6), ((HB.out.cell (zQ w _ hw341_7)).trans hw341_7), ((HB.out.cell (zQ w _ hw341_8)).trans hw341_8), ((HB.out.cell (zQ w _ hw341_9)).trans hw341_9), ((HB.out.cell (zQ w _ hw341_10)).trans hw341_10), ((HB.out.cell (zQ w _ hw342_0)).trans hw342_0), ((HB.out.cell (zQ w _ hw342_1)).trans hw342_1), ((HB.out.cell (zQ w _ hw342_2)).trans hw342_2), ((HB.out.cell (zQ w _ hw342_3)).trans hw342_3), ((HB.out.cell (zQ w _ hw342_4)).trans hw342_4), ((HB.out.cell (zQ w _ hw342_5)).trans hw342_5), ((HB.out.cell (zQ w _ hw342_6)).trans hw342_6), ((HB.out.cell (zQ w _ hw342_7)).trans hw342_7), ((HB.out.cell (zQ w _ hw342_8)).trans hw342_8), ((HB.out.cell (zQ w _ hw342_9)).trans hw342_9), ((HB.out.cell (zQ w _ hw342_10)).trans hw342_10), ((HB.out.cell (zQ w _ hw343_0)).trans hw343_0), ((HB.out.cell (zQ w _ hw343_1)).trans hw343_1), ((HB.out.cell (zQ w _ hw343_2)).trans hw343_2), ((HB.out.cell (zQ w _ hw343_3)).trans hw343_3), ((HB.out.cell (zQ w _ hw343_4)).trans hw343_4), ((HB.out.cell (zQ w _ hw343_5)).trans hw343_5), ((HB.out.cell (zQ w _ hw343_6)).trans hw343_6), ((HB.out.cell (zQ w _ hw343_7)).trans hw343_7), ((HB.out.cell (zQ w _ hw343_8)).trans hw343_8), ((HB.out.cell (zQ w _ hw343_9)).trans hw343_9), ((HB.out.cell (zQ w _ hw343_10)).trans hw343_10), ((HB.out.cell (zQ w _ hw344_0)).trans hw344_0), ((HB.out.cell (zQ w _ hw344_1)).trans hw344_1), ((HB.out.cell (zQ w _ hw344_2)).trans hw344_2), ((HB.out.cell (zQ w _ hw344_3)).trans hw344_3), ((HB.out.cell (zQ w _ hw344_4)).trans hw344_4), ((HB.out.cell (zQ w _ hw344_5)).trans hw344_5), ((HB.out.cell (zQ w _ hw344_6)).trans hw344_6), ((HB.out.cell (zQ w _ hw344_7)).trans hw344_7), ((HB.out.cell (zQ w _ hw344_8)).trans hw344_8), ((HB.out.cell (zQ w _ hw344_9)).trans hw344_9), ((HB.out.cell (zQ w _ hw344_10)).trans hw344_10)⟩ (fun hHeld => ?_); refine with_tabW spec_SameType.tab6 spec_SameType.bits6 (fun HT_ HW_ => ?_)
            generalize wr.drew = w47 at BK337 BK338 HB HR339_6 HR339_7 HR339_8 HR339_9 HR340_6 HR340_7 HR340_8 HR340_9 HR341_6 HR341_7 HR341_8 HR341_9 HR342_6 HR342_7 HR342_8 HR342_9 HR343_6 HR343_7 HR343_8 HR343_9 HR344_6 HR344_7 HR344_8 HR344_9 hx339_0 hx339_1 hx339_10 hx339_2 hx339_3 hx339_4 hx339_5 hx339_6 hx339_7 hx339_8 hx339_9 hx340_0 hx340_1 hx340_10 hx340_2 hx340_3 hx340_4 hx340_5 hx340_6 hx340_7 hx340_8 hx340_9 hx341_0 hx341_1 hx341_10 hx341_2 hx341_3 hx341_4 hx341_5 hx341_6 hx341_7 hx341_8 hx341_9 hx342_0 hx342_1 hx342_10 hx342_2 hx342_3 hx342_4 hx342_5 hx342_6 hx342_7 hx342_8 hx342_9 hx343_0 hx343_1 hx343_10 hx343_2 hx343_3 hx343_4 hx343_5 hx343_6 hx343_7 hx343_8 hx343_9 hx344_0 hx344_1 hx344_10 hx344_2 hx344_3 hx344_4 hx344_5 hx344_6 hx344_7 hx344_8 hx344_9 hHeld ⊢
            refine qA 0 65 (bz 44 1) HT_ ?_
            refine qA 2 67 (bz 44 5) HT_ ?_
            refine qA 6 71 (bz 44 69) HT_ ?_
            refine qA 8 73 (bz 44 325) HT_ ?_
            refine qC 1 66 (bz 44 327) HT_ HW_ hHeld ?_ (hy := by rintro w' ⟨s0, s1, s2, s3, s4, s5, s6, s7, s8, s9, s10, s11, s12, s13, s14, s15, s16, s17, s18, s19, s20, s21, s22, s23, s24, s25, s26, s27, s28, s29, s30, s31, s32, s33, s34, s35, s36, s37, s38, s39, s40, s41, s42, s43, s44, s45, s46, s47, s48, s49, s50, s51, s52, s53, s54, s55, s56, s57, s58, s59, s60, s61, s62, s63, s64, s65, s66, s67, s68, s69, s70, s71, s72, s73, s74, s75, s76, s77, s78, s79, s80, s81, s82, s83⟩; go_simp; with_reducible rfl)
            refine qA 3 68 (bz 44 335) HT_ ?_
            refine qA 4 69 (bz 44 351) HT_ ?_
            refine qC 5 70 (bz 44 383) HT_ HW_ hHeld ?_ (hy := by rintro w' ⟨s0, s1, s2, s3, s4, s5, s6, s7, s8, s9, s10, s11, s12, s13, s14, s15, s16, s17, s18, s19, s20, s21, s22, s23, s24, s25, s26, s27, s28, s29, s30, s31, s32, s33, s34, s35, s36, s37, s38, s39, s40, s41, s42, s43, s44, s45, s46, s47, s48, s49, s50, s51, s52, s53, s54, s55, s56, s57, s58, s59, s60, s61, s62, s63, s64, s65, s66, s67, s68, s69, s70, s71, s72, s73, s74, s75, s76, s77, s78, s79, s80, s81, s82, s83⟩; go_simp; with_reducible rfl)
            refine qC 7 72 (bz 44 511) HT_ HW_ hHeld ?_ (hy := by rintro w' ⟨s0, s1, s2, s3, s4, s5, s6, s7, s8, s9, s10, s11, s12, s13, s14, s15, s16, s17, s18, s19, s20, s21, s22, s23, s24, s25, s26, s27, s28, s29, s30, s31, s32, s33, s34, s35, s36, s37, s38, s39, s40, s41, s42, s43, s44, s45, s46, s47, s48, s49, s50, s51, s52, s53, s54, s55, s56, s57, s58, s59, s60, s61, s62, s63, s64, s65, s66, s67, s68, s69, s70, s71, s72, s73, s74, s75, s76, s77, s78, s79, s80, s81, s82, s83⟩; go_simp; with_reducible rfl)
            refine qA 9 74 (bz 44 1023) HT_ ?_
            refine qA 10 75 (bz 44 2047) HT_ ?_
            refine qC 11 76 (bz 44 4095) HT_ HW_ hHeld ?_ (hy := by rintro w' ⟨s0, s1, s2, s3, s4, s5, s6, s7, s8, s9, s10, s11, s12, s13, s14, s15, s16, s17, s18, s19, s20, s21, s22, s23, s24, s25, s26, s27, s28, s29, s30, s31, s32, s33, s34, s35, s36, s37, s38, s39, s40, s41, s42, s43, s44, s45, s46, s47, s48, s49, s50, s51, s52, s53, s54, s55, s56, s57, s58, s59, s60, s61, s62, s63, s64, s65, s66, s67, s68, s69, s70, s71, s72, s73, s74, s75, s76, s77, s78, s79, s80, s81, s82, s83⟩; go_simp; with_reducible rfl)
            refine qA 12 77 (bz 44 8191) HT_ ?_
            refine qA 13 78 (bz 44 16383) HT_ ?_
            refine qA 14 79 (bz 44 32767) HT_ ?_
            refine qA 16 81 (bz 44 98303) HT_ ?_
            refine qA 20 85 (bz 44 1146879) HT_ ?_
            refine qA 22 87 (bz 44 5341183) HT_ ?_
            refine qC 15 80 (bz 44 5373951) HT_ HW_ hHeld ?_ (hy := by rintro w' ⟨s0, s1, s2, s3, s4, s5, s6, s7, s8, s9, s10, s11, s12, s13, s14, s15, s16, s17, s18, s19, s20, s21, s22, s23, s24, s25, s26, s27, s28, s29, s30, s31, s32, s33, s34, s35, s36, s37, s38, s39, s40, s41, s42, s43, s44, s45, s46, s47, s48, s49, s50, s51, s52, s53, s54, s55, s56, s57, s58, s59, s60, s61, s62, s63, s64, s65, s66, s67, s68, s69, s70, s71, s72, s73, s74, s75, s76, s77, s78, s79, s80, s81, s82, s83⟩; go_simp; with_reducible rfl)
            refine qA 17 82 (bz 44 5505023) HT_ ?_
            refine qA 18 83 (bz 44 5767167) HT_ ?_
            refine qC 19 84 (bz 44 6291455) HT_ HW_ hHeld ?_ (hy := by rintro w' ⟨s0, s1, s2, s3, s4, s5, s6, s7, s8, s9, s10, s11, s12, s13, s14, s15, s16, s17, s18, s19, s20, s21, s22, s23, s24, s25, s26, s27, s28, s29, s30, s31, s32, s33, s34, s35, s36, s37, s38, s39, s40, s41, s42, s43, s44, s45, s46, s47, s48, s49, s50, s51, s52, s53, s54, s55, s56, s57, s58, s59, s60, s61, s62, s63, s64, s65, s66, s67, s68, s69, s70, s71, s72, s73, s74, s75, s76, s77, s78, s79, s80, s81, s82, s83⟩; go_simp; with_reducible rfl)
            refine qC 21 86 (bz 44 8388607) HT_ HW_ hHeld ?_ (hy := by rintro w' ⟨s0, s1, s2, s3, s4, s5, s6, s7, s8, s9, s10, s11, s12, s13, s14, s15, s16, s17, s18, s19, s20, s21, s22, s23, s24, s25, s26, s27, s28, s29, s30, s31, s32, s33, s34, s35, s36, s37, s38, s39, s40, s41, s42, s43, s44, s45, s46, s47, s48, s49, s50, s51, s52, s53, s54, s55, s56, s57, s58, s59, s60, s61, s62, s63, s64, s65, s66, s67, s68, s69, s70, s71, s72, s73, s74, s75, s76, s77, s78, s79, s80, s81, s82, s83⟩; go_simp; with_reducible rfl)
            refine qA 23 88 (bz 44 16777215) HT_ ?_
            refine qA 24 89 (bz 44 33554431) HT_ ?_
            refine qC 25 90 (bz 44 67108863) HT_ HW_ hHeld ?_ (hy := by rintro w' ⟨s0, s1, s2, s3, s4, s5, s6, s7, s8, s9, s10, s11, s12, s13, s14, s15, s16, s17, s18, s19, s20, s21, s22, s23, s24, s25, s26, s27, s28, s29, s30, s31, s32, s33, s34, s35, s36, s37, s38, s39, s40, s41, s42, s43, s44, s45, s46, s47, s48, s49, s50, s51, s52, s53, s54, s55, s56, s57, s58, s59, s60, s61, s62, s63, s64, s65, s66, s67, s68, s69, s70, s71, s72, s73, s74, s75, s76, s77, s78, s79, s80, s81, s82, s83⟩; go_simp; with_reducible rfl)
            refine qA 26 91 (bz 44 134217727) HT_ ?_
            refine qA 27 92 (bz 44 268435455) HT_ ?_
            refine qA 28 93 (bz 44 536870911) HT_ ?_
            refine qA 29 94 (bz 44 1073741823) HT_ ?_
            refine qA 31 96 (bz 44 3221225471) HT_ ?_
            refine qA 35 100 (bz 44 37580963839) HT_ ?_
            refine qA 37 102 (bz 44 175019917311) HT_ ?_
            refine qC 30 95 (bz 44 176093659135) HT_ HW_ hHeld ?_ (hy := by rintro w' ⟨s0, s1, s2, s3, s4, s5, s6, s7, s8, s9, s10, s11, s12, s13, s14, s15, s16, s17, s18, s19, s20, s21, s22, s23, s24, s25, s26, s27, s28, s29, s30, s31, s32, s33, s34, s35, s36, s37, s38, s39, s40, s41, s42, s43, s44, s45, s46, s47, s48, s49, s50, s51, s52, s53, s54, s55, s56, s57, s58, s59, s60, s61, s62, s63, s64, s65, s66, s67, s68, s69, s70, s71, s72, s73, s74, s75, s76, s77, s78, s79, s80, s81, s82, s83⟩; go_simp; with_reducible rfl)
            refine qA 32 97 (bz 44 180388626431) HT_ ?_
            refine qA 33 98 (bz 44 188978561023) HT_ ?_
            refine qC 34 99 (bz 44 206158430207) HT_ HW_ hHeld ?_ (hy := by rintro w' ⟨s0, s1, s2, s3, s4, s5, s6, s7, s8, s9, s10, s11, s12, s13, s14, s15, s16, s17, s18, s19, s20, s21, s22, s23, s24, s25, s26, s27, s28, s29, s30, s31, s32, s33, s34, s35, s36, s37, s38, s39, s40, s41, s42, s43, s44, s45, s46, s47, s48, s49, s50, s51, s52, s53, s54, s55, s56, s57, s58, s59, s60, s61, s62, s63, s64, s65, s66, s67, s68, s69, s70, s71, s72, s73, s74, s75, s76, s77, s78, s79, s80, s81, s82, s83⟩; go_simp; with_reducible rfl)
            refine qC 36 101 (bz 44 274877906943) HT_ HW_ hHeld ?_ (hy := by rintro w' ⟨s0, s1, s2, s3, s4, s5, s6, s7, s8, s9, s10, s11, s12, s13, s14, s15, s16, s17, s18, s19, s20, s21, s22, s23, s24, s25, s26, s27, s28, s29, s30, s31, s32, s33, s34, s35, s36, s37, s38, s39, s40, s41, s42, s43, s44, s45, s46, s47, s48, s49, s50, s51, s52, s53, s54, s55, s56, s57, s58, s59, s60, s61, s62, s63, s64, s65, s66, s67, s68, s69, s70, s71, s72, s73, s74, s75, s76, s77, s78, s79, s80, s81, s82, s83⟩; go_simp; with_reducible rfl)
            refine qA 38 103 (bz 44 549755813887) HT_ ?_
            refine qA 39 104 (bz 44 1099511627775) HT_ ?_
            refine qC 40 105 (bz 44 2199023255551) HT_ HW_ hHeld ?_ (hy := by rintro w' ⟨s0, s1, s2, s3, s4, s5, s6, s7, s8, s9, s10, s11, s12, s13, s14, s15, s16, s17, s18, s19, s20, s21, s22, s23, s24, s25, s26, s27, s28, s29, s30, s31, s32, s33, s34, s35, s36, s37, s38, s39, s40, s41, s42, s43, s44, s45, s46, s47, s48, s49, s50, s51, s52, s53, s54, s55, s56, s57, s58, s59, s60, s61, s62, s63, s64, s65, s66, s67, s68, s69, s70, s71, s72, s73, s74, s75, s76, s77, s78, s79, s80, s81, s82, s83⟩; go_simp; with_reducible rfl)
            refine one_ (i := 41) (N := some 106) (bz 44 4398046511103) rfl rfl (one_of HT_.out (by kernel_rfl)) (by decide) (fun K hK => ?_)
            refine goes_ Try.func8 (by kernel_rfl) rfl #[.agg #[.int .i64 ((rd_T64 l0_6 x5_2).f2.f0), .int .i64 ((rd_T64 l0_6 x5_2).f2.f1), .bool ((rd_T64 l0_6 x5_2).f2.f2), .bool ((rd_T64 l0_6 x5_2).f2.f3), .slice A339_6 ((rd_T64 l0_6 x5_2).f2.f4).length c339_6, .slice A339_7 ((rd_T64 l0_6 x5_2).f2.f5).length c339_7, .slice A339_8 ((rd_T64 l0_6 x5_2).f2.f6).length c339_8, .slice A339_9 ((rd_T64 l0_6 x5_2).f2.f7).length c339_9, .int .i64 ((rd_T64 l0_6 x5_2).f2.f8)], .agg #[.int .i64 ((rd_T64 l1_6 x5_2).f2.f0), .int .i64 ((rd_T64 l1_6 x5_2).f2.f1), .bool ((rd_T64 l1_6 x5_2).f2.f2), .bool ((rd_T64 l1_6 x5_2).f2.f3), .slice A340_6 ((rd_T64 l1_6 x5_2).f2.f4).length c340_6, .slice A340_7 ((rd_T64 l1_6 x5_2).f2.f5).length c340_7, .slice A340_8 ((rd_T64 l1_6 x5_2).f2.f6).length c340_8, .slice A340_9 ((rd_T64 l1_6 x5_2).f2.f7).length c340_9, .int .i64 ((rd_T64 l1_6 x5_2).f2.f8)]] (by rfl) rfl rfl (by (try simp only [zK, zL, zM]); first | done | rfl | (simp only [zN, zO]; rfl)) ?_
            with_reducible refine (ih k2 (by have := HJ2.out; have := HK2.out; omega) ((rd_T64 l0_6 x5_2).f2.f0) ((rd_T64 l0_6 x5_2).f2.f1) ((rd_T64 l0_6 x5_2).f2.f2) ((rd_T64 l0_6 x5_2).f2.f3) _ _ ((rd_T64 l0_6 x5_2).f2.f4) _ _ ((rd_T64 l0_6 x5_2).f2.f5) _ _ ((rd_T64 l0_6 x5_2).f2.f6) _ _ ((rd_T64 l0_6 x5_2).f2.f7) ((rd_T64 l0_6 x5_2).f2.f8) ((rd_T64 l1_6 x5_2).f2.f0) ((rd_T64 l1_6 x5_2).f2.f1) ((rd_T64 l1_6 x5_2).f2.f2) ((rd_T64 l1_6 x5_2).f2.f3) _ _ ((rd_T64 l1_6 x5_2).f2.f4) _ _ ((rd_T64 l1_6 x5_2).f2.f5) _ _ ((rd_T64 l1_6 x5_2).f2.f6) _ _ ((rd_T64 l1_6 x5_2).f2.f7) ((rd_T64 l1_6 x5_2).f2.f8) false _ ?side1 ?side2 ?side3 ?side4 ?side5 ?side6 ?side7 ?side8 ?side9 ?side10 ?side11 ?side12 ?side13 ?side14 ?side15 ?side16 A39.out).mono ?_
            (case side1 => exact kV (yY HR343_6.out HB.out))
            (case side2 => exact HC343_6.out)
            (case side3 => exact kV (yY HR343_7.out HB.out))
            (case side4 => exact HC343_7.out)
            (case side5 => exact kV (yY HR343_8.out HB.out))
            (case side6 => exact HC343_8.out)
            (case side7 => exact kV (yY HR343_9.out HB.out))
            (case side8 => exact HC343_9.out)
            (case side9 => exact kV (yY HR344_6.out HB.out))
            (case side10 => exact HC344_6.out)
            (case side11 => exact kV (yY HR344_7.out HB.out))
            (case side12 => exact HC344_7.out)
            (case side13 => exact kV (yY HR344_8.out HB.out))
            (case side14 => exact HC344_8.out)
            (case side15 => exact kV (yY HR344_9.out HB.out))
            (case side16 => exact HC344_9.out)
            rintro e w48 ⟨rfl, hb⟩
            refine ⟨_, rfl, ?_⟩
            have n0_ := yD (zB (kN BK337) hb)
            have n1_ := yD (zB (kN BK338) hb)
            have n2_ := yD (zC (kB HB) hb)
            clear BK337 BK338 HB; have BK337 := n0_; have BK338 := n1_; have HB := n2_; clear n0_ n1_ n2_; (try clear hb); (try clear hb2); (try clear hk); (try clear hi)
            refine hK.out _ _ ⟨(yG BK337.out 0).trans rfl, (yG BK337.out 1).trans rfl, (yG BK337.out 2).trans rfl, (yG BK337.out 3).trans rfl, (yG BK337.out 4).trans rfl, (yG BK337.out 5).trans rfl, (yG BK337.out 6).trans rfl, (yG BK337.out 7).trans rfl, (yG BK337.out 8).trans rfl, (yG BK338.out 0).trans rfl, (yG BK338.out 1).trans rfl, (yG BK338.out 2).trans rfl, (yG BK338.out 3).trans rfl, (yG BK338.out 4).trans rfl, (yG BK338.out 5).trans rfl, (yG BK338.out 6).trans rfl, (yG BK338.out 7).trans rfl, (yG BK338.out 8).trans rfl, ((HB.out.cell (zQ w _ hw339_0)).trans hw339_0), ((HB.out.cell (zQ w _ hw339_1)).trans hw339_1), ((HB.out.cell (zQ w _ hw339_2)).trans hw339_2), ((HB.out.cell (zQ w _ hw339_3)).trans hw339_3), ((HB.out.cell (zQ w _ hw339_4)).trans hw339_4), ((HB.out.cell (zQ w _ hw339_5)).trans hw339_5), ((HB.out.cell (zQ w _ hw339_6)).trans hw339_6), ((HB.out.cell (zQ w _ hw339_7)).trans hw339_7), ((HB.out.cell (zQ w _ hw339_8)).trans hw339_8), ((HB.out.cell (zQ w _ hw339_9)).trans hw339_9), ((HB.out.cell (zQ w _ hw339_10)).trans hw339_10), ((HB.out.cell (zQ w _ hw340_0)).trans hw340_0), ((HB.out.cell (zQ w _ hw340_1)).trans hw340_1), ((HB.out.cell (zQ w _ hw340_2)).trans hw340_2), ((HB.out.cell (zQ w _ hw340_3)).trans hw340_3), ((HB.out.cell (zQ w _ hw340_4)).trans hw340_4), ((HB.out.cell (zQ w _ hw340_5)).trans hw340_5), ((HB.out.cell (zQ w _ hw340_6)).trans hw340_6), ((HB.out.cell (zQ w _ hw340_7)).trans hw340_7), ((HB.out.cell (zQ w _ hw340_8)).trans hw340_8), ((HB.out.cell (zQ w _ hw340_9)).trans hw340_9), ((HB.out.cell (zQ w _ hw340_10)).trans hw340_10), ((HB.out.cell (zQ w _ hw341_0)).trans hw341_0), ((HB.out.cell (zQ w _ hw341_1)).trans hw341_1), ((HB.out.cell (zQ w _ hw341_2)).trans hw341_2), ((HB.out.cell (zQ w _ hw341_3)).trans hw341_3), ((HB.out.cell (zQ w _ hw341_4)).trans hw341_4), ((HB.out.cell (zQ w _ hw341_5)).trans hw341_5), ((HB.out.cell (zQ w _ hw341_6)).trans hw341_6), ((HB.out.cell (zQ w _ hw341_7)).trans hw341_7), ((HB.out.cell (zQ w _ hw341_8)).trans hw341_8), ((HB.out.cell (zQ w _ hw341_9)).trans hw341_9), ((HB.out.cell (zQ w _ hw341_10)).trans hw341_10), ((HB.out.cell (zQ w _ hw342_0)).trans hw342_0), ((HB.out.cell (zQ w _ hw342_1)).trans hw342_1), ((HB.out.cell (zQ w _ hw342_2)).trans hw342_2), ((HB.out.cell (zQ w _ hw342_3)).trans hw342_3), ((HB.out.cell (zQ w _ hw342_4)).trans hw342_4), ((HB.out.cell (zQ w _ hw342_5)).trans hw342_5), ((HB.out.cell (zQ w _ hw342_6)).trans hw342_6), ((HB.out.cell (zQ w _ hw342_7)).trans hw342_7), ((HB.out.cell (zQ w _ hw342_8)).trans hw342_8), ((HB.out.cell (zQ w _ hw342_9)).trans hw342_9), ((HB.out.cell (zQ w _ hw342_10)).trans hw342_10), ((HB.out.cell (zQ w _ hw343_0)).trans hw343_0), ((HB.out.cell (zQ w _ hw343_1)).trans hw343_1), ((HB.out.cell (zQ w _ hw343_2)).trans hw343_2), ((HB.out.cell (zQ w _ hw343_3)).trans hw343_3), ((HB.out.cell (zQ w _ hw343_4)).trans hw343_4), ((HB.out.cell (zQ w _ hw343_5)).trans hw343_5), ((HB.out.cell (zQ w _ hw343_6)).trans hw343_6), ((HB.out.cell (zQ w _ hw343_7)).trans hw343_7), ((HB.out.cell (zQ w _ hw343_8)).trans hw343_8), ((HB.out.cell (zQ w _ hw343_9)).trans hw343_9), ((HB.out.cell (zQ w _ hw343_10)).trans hw343_10), ((HB.out.cell (zQ w _ hw344_0)).trans hw344_0), ((HB.out.cell (zQ w _ hw344_1)).trans hw344_1), ((HB.out.cell (zQ w _ hw344_2)).trans hw344_2), ((HB.out.cell (zQ w _ hw344_3)).trans hw344_3), ((HB.out.cell (zQ w _ hw344_4)).trans hw344_4), ((HB.out.cell (zQ w _ hw344_5)).trans hw344_5), ((HB.out.cell (zQ w _ hw344_6)).trans hw344_6), ((HB.out.cell (zQ w _ hw344_7)).trans hw344_7), ((HB.out.cell (zQ w _ hw344_8)).trans hw344_8), ((HB.out.cell (zQ w _ hw344_9)).trans hw344_9), ((HB.out.cell (zQ w _ hw344_10)).trans hw344_10)⟩ (fun hHeld => ?_)
            clear hK K
            refine norm_ (a' := ?_) ?_ ?_
            rotate_left
            · show Act.put _ (some 106) _ = _
              simp only [Act.put, zH, zI, zJ, i64_w, i32_w]
              rfl
            refine qA 42 107 (bz 44 8796093022207) HT_ ?_
            refine qA 43 108 (bz 44 17592186044415) HT_ ?_
            refine done_ (done_of HT_.out (by kernel_rfl)) ?_
            try go_wp2
            go_ret
            exact ⟨by first | rfl | (simp <;> rfl) | (simp [*] <;> rfl), kR0 HB⟩
          ·
           rw [if_neg c38] at H
           have c38b0 : (((rd_T64 l0_6 x5_2).f1) == ((rd_T64 l1_6 x5_2).f1)) = false := beq_eq_false_iff_ne.mpr c38
           have c38b1 : (((rd_T64 l0_6 x5_2).f1) != ((rd_T64 l1_6 x5_2).f1)) = true := bne_iff_ne.mpr c38
           obtain rfl := Option.some.inj H; have hnb49 := NB337_338.out; have hnc49 := NB338_337.out
           obtain ⟨hcz50_0, hcz50_1, hcz50_2, hcz50_3, hcz50_4, hcz50_5, hcz50_6, hcz50_7, hcz50_8⟩ := cz9 BK337.out
           obtain ⟨hfz50_0, hfz50_1, hfz50_2, hfz50_3, hfz50_4, hfz50_5, hfz50_6, hfz50_7, hfz50_8⟩ := fz9 BK337.out
           try go_wp2
           have n0_ := yD (yO BK337.out)
           have n1_ := yD (yO BK338.out)
           have n2_ := yD (yP HB.out)
           clear BK337 BK338 HB; have BK337 := n0_; have BK338 := n1_; have HB := n2_; clear n0_ n1_ n2_
           have p339 : 0 ≤ (x5_2 : Int) := zP (by assumption)
           have q339 : x5_2 < (l0_6.length : Int) := zP (by assumption)
           obtain ⟨ad339, A339_6, c339_6, A339_7, c339_7, A339_8, c339_8, A339_9, c339_9, e339, hx339_0, hx339_1, hx339_2, hx339_3, hx339_4, hx339_5, hx339_6, hx339_7, hx339_8, hx339_9, hx339_10, hl339_6, hi339_6, hl339_7, hi339_7, hl339_8, hi339_8, hl339_9, hi339_9⟩ := at_T64 HR0_6.out x5_2 p339 q339
           have hw339_10 := hx339_10; have hw339_9 := hx339_9; have hw339_8 := hx339_8; have hw339_7 := hx339_7; have hw339_6 := hx339_6; have hw339_5 := hx339_5; have hw339_4 := hx339_4; have hw339_3 := hx339_3; have hw339_2 := hx339_2; have hw339_1 := hx339_1; have hw339_0 := hx339_0; cases e339
           replace hx339_0 := kCx3_ HB hx339_0
           replace hx339_1 := kCx3_ HB hx339_1
           replace hx339_2 := kCx3_ HB hx339_2
           replace hx339_3 := kCx3_ HB hx339_3
           replace hx339_4 := kCx3_ HB hx339_4
           replace hx339_5 := kCx3_ HB hx339_5
           replace hx339_6 := kCx3_ HB hx339_6
           replace hx339_7 := kCx3_ HB hx339_7
           replace hx339_8 := kCx3_ HB hx339_8
           replace hx339_9 := kCx3_ HB hx339_9
           replace hx339_10 := kCx3_ HB hx339_10
           have HR339_6 := yD hi339_6
           have HC339_6 := yD hl339_6
           clear hi339_6 hl339_6
           have HR339_7 := yD hi339_7
           have HC339_7 := yD hl339_7
           clear hi339_7 hl339_7
           have HR339_8 := yD hi339_8
           have HC339_8 := yD hl339_8
           clear hi339_8 hl339_8
           have HR339_9 := yD hi339_9
           have HC339_9 := yD hl339_9
           clear hi339_9 hl339_9; replace p339 := eq_true p339; replace q339 := eq_true q339
           have p340 : 0 ≤ (x5_2 : Int) := zP (by assumption)
           have q340 : x5_2 < (l1_6.length : Int) := zP (by assumption)
           obtain ⟨ad340, A340_6, c340_6, A340_7, c340_7, A340_8, c340_8, A340_9, c340_9, e340, hx340_0, hx340_1, hx340_2, hx340_3, hx340_4, hx340_5, hx340_6, hx340_7, hx340_8, hx340_9, hx340_10, hl340_6, hi340_6, hl340_7, hi340_7, hl340_8, hi340_8, hl340_9, hi340_9⟩ := at_T64 HR1_6.out x5_2 p340 q340
           have hw340_10 := hx340_10; have hw340_9 := hx340_9; have hw340_8 := hx340_8; have hw340_7 := hx340_7; have hw340_6 := hx340_6; have hw340_5 := hx340_5; have hw340_4 := hx340_4; have hw340_3 := hx340_3; have hw340_2 := hx340_2; have hw340_1 := hx340_1; have hw340_0 := hx340_0; cases e340
           replace hx340_0 := kCx3_ HB hx340_0
           replace hx340_1 := kCx3_ HB hx340_1
           replace hx340_2 := kCx3_ HB hx340_2
           replace hx340_3 := kCx3_ HB hx340_3
           replace hx340_4 := kCx3_ HB hx340_4
           replace hx340_5 := kCx3_ HB hx340_5
           replace hx340_6 := kCx3_ HB hx340_6
           replace hx340_7 := kCx3_ HB hx340_7
           replace hx340_8 := kCx3_ HB hx340_8
           replace hx340_9 := kCx3_ HB hx340_9
           replace hx340_10 := kCx3_ HB hx340_10
           have HR340_6 := yD hi340_6
           have HC340_6 := yD hl340_6
           clear hi340_6 hl340_6
           have HR340_7 := yD hi340_7
           have HC340_7 := yD hl340_7
           clear hi340_7 hl340_7
           have HR340_8 := yD hi340_8
           have HC340_8 := yD hl340_8
           clear hi340_8 hl340_8
           have HR340_9 := yD hi340_9
           have HC340_9 := yD hl340_9
           clear hi340_9 hl340_9; replace p340 := eq_true p340; replace q340 := eq_true q340
           have p341 : 0 ≤ (x5_2 : Int) := zP (by assumption)
           have q341 : x5_2 < (l0_6.length : Int) := zP (by assumption)
           obtain ⟨ad341, A341_6, c341_6, A341_7, c341_7, A341_8, c341_8, A341_9, c341_9, e341, hx341_0, hx341_1, hx341_2, hx341_3, hx341_4, hx341_5, hx341_6, hx341_7, hx341_8, hx341_9, hx341_10, hl341_6, hi341_6, hl341_7, hi341_7, hl341_8, hi341_8, hl341_9, hi341_9⟩ := at_T64 HR0_6.out x5_2 p341 q341
           have hw341_10 := hx341_10; have hw341_9 := hx341_9; have hw341_8 := hx341_8; have hw341_7 := hx341_7; have hw341_6 := hx341_6; have hw341_5 := hx341_5; have hw341_4 := hx341_4; have hw341_3 := hx341_3; have hw341_2 := hx341_2; have hw341_1 := hx341_1; have hw341_0 := hx341_0
           obtain rfl : ad339 = ad341 := (by injection e341)
           replace hx341_0 := kCx3_ HB hx341_0
           replace hx341_1 := kCx3_ HB hx341_1
           replace hx341_2 := kCx3_ HB hx341_2
           replace hx341_3 := kCx3_ HB hx341_3
           replace hx341_4 := kCx3_ HB hx341_4
           replace hx341_5 := kCx3_ HB hx341_5
           replace hx341_6 := kCx3_ HB hx341_6
           replace hx341_7 := kCx3_ HB hx341_7
           replace hx341_8 := kCx3_ HB hx341_8
           replace hx341_9 := kCx3_ HB hx341_9
           replace hx341_10 := kCx3_ HB hx341_10
           have HR341_6 := yD hi341_6
           have HC341_6 := yD hl341_6
           clear hi341_6 hl341_6
           have HR341_7 := yD hi341_7
           have HC341_7 := yD hl341_7
           clear hi341_7 hl341_7
           have HR341_8 := yD hi341_8
           have HC341_8 := yD hl341_8
           clear hi341_8 hl341_8
           have HR341_9 := yD hi341_9
           have HC341_9 := yD hl341_9
           clear hi341_9 hl341_9; replace p341 := eq_true p341; replace q341 := eq_true q341
           have ea_ := Option.some.inj (hx339_6.symm.trans hx341_6)
           injection ea_ with ea_ en_ ec_
           subst ea_; subst ec_; clear en_
           have ea_ := Option.some.inj (hx339_7.symm.trans hx341_7)
           injection ea_ with ea_ en_ ec_
           subst ea_; subst ec_; clear en_
           have ea_ := Option.some.inj (hx339_8.symm.trans hx341_8)
           injection ea_ with ea_ en_ ec_
           subst ea_; subst ec_; clear en_
           have ea_ := Option.some.inj (hx339_9.symm.trans hx341_9)
           injection ea_ with ea_ en_ ec_
           subst ea_; subst ec_; clear en_
           have p342 : 0 ≤ (x5_2 : Int) := zP (by assumption)
           have q342 : x5_2 < (l1_6.length : Int) := zP (by assumption)
           obtain ⟨ad342, A342_6, c342_6, A342_7, c342_7, A342_8, c342_8, A342_9, c342_9, e342, hx342_0, hx342_1, hx342_2, hx342_3, hx342_4, hx342_5, hx342_6, hx342_7, hx342_8, hx342_9, hx342_10, hl342_6, hi342_6, hl342_7, hi342_7, hl342_8, hi342_8, hl342_9, hi342_9⟩ := at_T64 HR1_6.out x5_2 p342 q342
           have hw342_10 := hx342_10; have hw342_9 := hx342_9; have hw342_8 := hx342_8; have hw342_7 := hx342_7; have hw342_6 := hx342_6; have hw342_5 := hx342_5; have hw342_4 := hx342_4; have hw342_3 := hx342_3; have hw342_2 := hx342_2; have hw342_1 := hx342_1; have hw342_0 := hx342_0
           obtain rfl : ad340 = ad342 := (by injection e342)
           replace hx342_0 := kCx3_ HB hx342_0
           replace hx342_1 := kCx3_ HB hx342_1
           replace hx342_2 := kCx3_ HB hx342_2
           replace hx342_3 := kCx3_ HB hx342_3
           replace hx342_4 := kCx3_ HB hx342_4
           replace hx342_5 := kCx3_ HB hx342_5
           replace hx342_6 := kCx3_ HB hx342_6
           replace hx342_7 := kCx3_ HB hx342_7
           replace hx342_8 := kCx3_ HB hx342_8
           replace hx342_9 := kCx3_ HB hx342_9
           replace hx342_10 := kCx3_ HB hx342_10
           have HR342_6 := yD hi342_6
           have HC342_6 := yD hl342_6
           clear hi342_6 hl342_6
           have HR342_7 := yD hi342_7
           have HC342_7 := yD hl342_7
           clear hi342_7 hl342_7
           have HR342_8 := yD hi342_8
           have HC342_8 := yD hl342_8
           clear hi342_8 hl342_8
           have HR342_9 := yD hi342_9
           have HC342_9 := yD hl342_9
           clear hi342_9 hl342_9; replace p342 := eq_true p342; replace q342 := eq_true q342
           have ea_ := Option.some.inj (hx340_6.symm.trans hx342_6)
           injection ea_ with ea_ en_ ec_
           subst ea_; subst ec_; clear en_
           have ea_ := Option.some.inj (hx340_7.symm.trans hx342_7)
           injection ea_ with ea_ en_ ec_
           subst ea_; subst ec_; clear en_
           have ea_ := Option.some.inj (hx340_8.symm.trans hx342_8)
           injection ea_ with ea_ en_ ec_
           subst ea_; subst ec_; clear en_
           have ea_ := Option.some.inj (hx340_9.symm.trans hx342_9)
           injection ea_ with ea_ en_ ec_
           subst ea_; subst ec_; clear en_
           refine start_ (n := 44) (S := fun w' => w'.cell? ⟨gb337, 0, none⟩ = some (.int .i64 a0_0) ∧ w'.cell? ⟨gb337, 1, none⟩ = some (.int .i64 a0_1) ∧ w'.cell? ⟨gb337, 2, none⟩ = some (.bool a0_2) ∧ w'.cell? ⟨gb337, 3, none⟩ = some (.bool a0_3) ∧ w'.cell? ⟨gb337, 4, none⟩ = some (.slice A0_4 l0_4.length c0_4) ∧ w'.cell? ⟨gb337, 5, none⟩ = some (.slice A0_5 l0_5.length c0_5) ∧ w'.cell? ⟨gb337, 6, none⟩ = some (.slice (some ad339) l0_6.length c0_6) ∧ w'.cell? ⟨gb337, 7, none⟩ = some (.slice A0_7 l0_7.length c0_7) ∧ w'.cell? ⟨gb337, 8, none⟩ = some (.int .i64 a0_8) ∧ w'.cell? ⟨gb338, 0, none⟩ = some (.int .i64 a1_0) ∧ w'.cell? ⟨gb338, 1, none⟩ = some (.int .i64 a1_1) ∧ w'.cell? ⟨gb338, 2, none⟩ = some (.bool a1_2) ∧ w'.cell? ⟨gb338, 3, none⟩ = some (.bool a1_3) ∧ w'.cell? ⟨gb338, 4, none⟩ = some (.slice A1_4 l1_4.length c1_4) ∧ w'.cell? ⟨gb338, 5, none⟩ = some (.slice A1_5 l1_5.length c1_5) ∧ w'.cell? ⟨gb338, 6, none⟩ = some (.slice (some ad340) l1_6.length c1_6) ∧ w'.cell? ⟨gb338, 7, none⟩ = some (.slice A1_7 l1_7.length c1_7) ∧ w'.cell? ⟨gb338, 8, none⟩ = some (.int .i64 a1_8) ∧ w'.cell? (ad339.add ((x5_2).toNat * 11)) = some (.string ((rd_T64 l0_6 x5_2).f0)) ∧ w'.cell? ⟨(ad339.add ((x5_2).toNat * 11)).block, (ad339.add ((x5_2).toNat * 11)).off + 1, none⟩ = some (.int .i64 ((rd_T64 l0_6 x5_2).f1)) ∧ w'.cell? ⟨(ad339.add ((x5_2).toNat * 11)).block, (ad339.add ((x5_2).toNat * 11)).off + 2, none⟩ = some (.int .i64 ((rd_T64 l0_6 x5_2).f2.f0)) ∧ w'.cell? ⟨(ad339.add ((x5_2).toNat * 11)).block, (ad339.add ((x5_2).toNat * 11)).off + 3, none⟩ = some (.int .i64 ((rd_T64 l0_6 x5_2).f2.f1)) ∧ w'.cell? ⟨(ad339.add ((x5_2).toNat * 11)).block, (ad339.add ((x5_2).toNat * 11)).off + 4, none⟩ = some (.bool ((rd_T64 l0_6 x5_2).f2.f2)) ∧ w'.cell? ⟨(ad339.add ((x5_2).toNat * 11)).block, (ad339.add ((x5_2).toNat * 11)).off + 5, none⟩ = some (.bool ((rd_T64 l0_6 x5_2).f2.f3)) ∧ w'.cell? ⟨(ad339.add ((x5_2).toNat * 11)).block, (ad339.add ((x5_2).toNat * 11)).off + 6, none⟩ = some (.slice A339_6 ((rd_T64 l0_6 x5_2).f2.f4).length c339_6) ∧ w'.cell? ⟨(ad339.add ((x5_2).toNat * 11)).block, (ad339.add ((x5_2).toNat * 11)).off + 7, none⟩ = some (.slice A339_7 ((rd_T64 l0_6 x5_2).f2.f5).length c339_7) ∧ w'.cell? ⟨(ad339.add ((x5_2).toNat * 11)).block, (ad339.add ((x5_2).toNat * 11)).off + 8, none⟩ = some (.slice A339_8 ((rd_T64 l0_6 x5_2).f2.f6).length c339_8) ∧ w'.cell? ⟨(ad339.add ((x5_2).toNat * 11)).block, (ad339.add ((x5_2).toNat * 11)).off + 9, none⟩ = some (.slice A339_9 ((rd_T64 l0_6 x5_2).f2.f7).length c339_9) ∧ w'.cell? ⟨(ad339.add ((x5_2).toNat * 11)).block, (ad339.add ((x5_2).toNat * 11)).off + 10, none⟩ = some (.int .i64 ((rd_T64 l0_6 x5_2).f2.f8)) ∧ w'.cell? (ad340.add ((x5_2).toNat * 11)) = some (.string ((rd_T64 l1_6 x5_2).f0)) ∧ w'.cell? ⟨(ad340.add ((x5_2).toNat * 11)).block, (ad340.add ((x5_2).toNat * 11)).off + 1, none⟩ = some (.int .i64 ((rd_T64 l1_6 x5_2).f1)) ∧ w'.cell? ⟨(ad340.add ((x5_2).toNat * 11)).block, (ad340.add ((x5_2).toNat * 11)).off + 2, none⟩ = some (.int .i64 ((rd_T64 l1_6 x5_2).f2.f0)) ∧ w'.cell? ⟨(ad340.add ((x5_2).toNat * 11)).block, (ad340.add ((x5_2).toNat * 11)).off + 3, none⟩ = some (.int .i64 ((rd_T64 l1_6 x5_2).f2.f1)) ∧ w'.cell? ⟨(ad340.add ((x5_2).toNat * 11)).block, (ad340.add ((x5_2).toNat * 11)).off + 4, none⟩ = some (.bool ((rd_T64 l1_6 x5_2).f2.f2)) ∧ w'.cell? ⟨(ad340.add ((x5_2).toNat * 11)).block, (ad340.add ((x5_2).toNat * 11)).off + 5, none⟩ = some (.bool ((rd_T64 l1_6 x5_2).f2.f3)) ∧ w'.cell? ⟨(ad340.add ((x5_2).toNat * 11)).block, (ad340.add ((x5_2).toNat * 11)).off + 6, none⟩ = some (.slice A340_6 ((rd_T64 l1_6 x5_2).f2.f4).length c340_6) ∧ w'.cell? ⟨(ad340.add ((x5_2).toNat * 11)).block, (ad340.add ((x5_2).toNat * 11)).off + 7, none⟩ = some (.slice A340_7 ((rd_T64 l1_6 x5_2).f2.f5).length c340_7) ∧ w'.cell? ⟨(ad340.add ((x5_2).toNat * 11)).block, (ad340.add ((x5_2).toNat * 11)).off + 8, none⟩ = some (.slice A340_8 ((rd_T64 l1_6 x5_2).f2.f6).length c340_8) ∧ w'.cell? ⟨(ad340.add ((x5_2).toNat * 11)).block, (ad340.add ((x5_2).toNat * 11)).off + 9, none⟩ = some (.slice A340_9 ((rd_T64 l1_6 x5_2).f2.f7).length c340_9) ∧ w'.cell? ⟨(ad340.add ((x5_2).toNat * 11)).block, (ad340.add ((x5_2).toNat * 11)).off + 10, none⟩ = some (.int .i64 ((rd_T64 l1_6 x5_2).f2.f8)) ∧ w'.cell? (ad339.add ((x5_2).toNat * 11)) = some (.string ((rd_T64 l0_6 x5_2).f0)) ∧ w'.cell? ⟨(ad339.add ((x5_2).toNat * 11)).block, (ad339.add ((x5_2).toNat * 11)).off + 1, none⟩ = some (.int .i64 ((rd_T64 l0_6 x5_2).f1)) ∧ w'.cell? ⟨(ad339.add ((x5_2).toNat * 11)).block, (ad339.add ((x5_2).toNat * 11)).off + 2, none⟩ = some (.int .i64 ((rd_T64 l0_6 x5_2).f2.f0)) ∧ w'.cell? ⟨(ad339.add ((x5_2).toNat * 11)).block, (ad339.add ((x5_2).toNat * 11)).off + 3, none⟩ = some (.int .i64 ((rd_T64 l0_6 x5_2).f2.f1)) ∧ w'.cell? ⟨(ad339.add ((x5_2).toNat * 11)).block, (ad339.add ((x5_2).toNat * 11)).off + 4, none⟩ = some (.bool ((rd_T64 l0_6 x5_2).f2.f2)) ∧ w'.cell? ⟨(ad339.add ((x5_2).toNat * 11)).block, (ad339.add ((x5_2).toNat * 11)).off + 5, none⟩ = some (.bool ((rd_T64 l0_6 x5_2).f2.f3)) ∧ w'.cell? ⟨(ad339.add ((x5_2).toNat * 11)).block, (ad339.add ((x5_2).toNat * 11)).off + 6, none⟩ = some (.slice A339_6 ((rd_T64 l0_6 x5_2).f2.f4).length c339_6) ∧ w'.cell? ⟨(ad339.add ((x5_2).toNat * 11)).block, (ad339.add ((x5_2).toNat * 11)).off + 7, none⟩ = some (.slice A339_7 ((rd_T64 l0_6 x5_2).f2.f5).length c339_7) ∧ w'.cell? ⟨(ad339.add ((x5_2).toNat * 11)).block, (ad339.add ((x5_2).toNat * 11)).off + 8, none⟩ = some (.slice A339_8 ((rd_T64 l0_6 x5_2).f2.f6).length c339_8) ∧ w'.cell? ⟨(ad339.add ((x5_2).toNat * 11)).block, (ad339.add ((x5_2).toNat * 11)).off + 9, none⟩ = some (.slice A339_9 ((rd_T64 l0_6 x5_2).f2.f7).length c339_9) ∧ w'.cell? ⟨(ad339.add ((x5_2).toNat * 11)).block, (ad339.add ((x5_2).toNat * 11)).off + 10, none⟩ = some (.int .i64 ((rd_T64 l0_6 x5_2).f2.f8)) ∧ w'.cell? (ad340.add ((x5_2).toNat * 11)) = some (.string ((rd_T64 l1_6 x5_2).f0)) ∧ w'.cell? ⟨(ad340.add ((x5_2).toNat * 11)).block, (ad340.add ((x5_2).toNat * 11)).off + 1, none⟩ = some (.int .i64 ((rd_T64 l1_6 x5_2).f1)) ∧ w'.cell? ⟨(ad340.add ((x5_2).toNat * 11)).block, (ad340.add ((x5_2).toNat * 11)).off + 2, none⟩ = some (.int .i64 ((rd_T64 l1_6 x5_2).f2.f0)) ∧ w'.cell? ⟨(ad340.add ((x5_2).toNat * 11)).block, (ad340.add ((x5_2).toNat * 11)).off + 3, none⟩ = some (.int .i64 ((rd_T64 l1_6 x5_2).f2.f1)) ∧ w'.cell? ⟨(ad340.add ((x5_2).toNat * 11)).block, (ad340.add ((x5_2).toNat * 11)).off + 4, none⟩ = some (.bool ((rd_T64 l1_6 x5_2).f2.f2)) ∧ w'.cell? ⟨(ad340.add ((x5_2).toNat * 11)).block, (ad340.add ((x5_2).toNat * 11)).off + 5, none⟩ = some (.bool ((rd_T64 l1_6 x5_2).f2.f3)) ∧ w'.cell? ⟨(ad340.add ((x5_2).toNat * 11)).block, (ad340.add ((x5_2).toNat * 11)).off + 6, none⟩ = some (.slice A340_6 ((rd_T64 l1_6 x5_2).f2.f4).length c340_6) ∧ w'.cell? ⟨(ad340.add ((x5_2).toNat * 11)).block, (ad340.add ((x5_2).toNat * 11)).off + 7, none⟩ = some (.slice A340_7 ((rd_T64 l1_6 x5_2).f2.f5).length c340_7) ∧ w'.cell? ⟨(ad340.add ((x5_2).toNat * 11)).block, (ad340.add ((x5_2).toNat * 11)).off + 8, none⟩ = some (.slice A340_8 ((rd_T64 l1_6 x5_2).f2.f6).length c340_8) ∧ w'.cell? ⟨(ad340.add ((x5_2).toNat * 11)).block, (ad340.add ((x5_2).toNat * 11)).off + 9, none⟩ = some (.slice A340_9 ((rd_T64 l1_6 x5_2).f2.f7).length c340_9) ∧ w'.cell? ⟨(ad340.add ((x5_2).toNat * 11)).block, (ad340.add ((x5_2).toNat * 11)).off + 10, none⟩ = some (.int .i64 ((rd_T64 l1_6 x5_2).f2.f8))) (ds := []) (bz 44 0) (by kernel_rfl) rfl rfl ⟨(yG BK337.out 0).trans rfl, (yG BK337.out 1).trans rfl, (yG BK337.out 2).trans rfl, (yG BK337.out 3).trans rfl, (yG BK337.out 4).trans rfl, (yG BK337.out 5).trans rfl, (yG BK337.out 6).trans rfl, (yG BK337.out 7).trans rfl, (yG BK337.out 8).trans rfl, (yG BK338.out 0).trans rfl, (yG BK338.out 1).trans rfl, (yG BK338.out 2).trans rfl, (yG BK338.out 3).trans rfl, (yG BK338.out 4).trans rfl, (yG BK338.out 5).trans rfl, (yG BK338.out 6).trans rfl, (yG BK338.out 7).trans rfl, (yG BK338.out 8).trans rfl, ((HB.out.cell (zQ w _ hw339_0)).trans hw339_0), ((HB.out.cell (zQ w _ hw339_1)).trans hw339_1), ((HB.out.cell (zQ w _ hw339_2)).trans hw339_2), ((HB.out.cell (zQ w _ hw339_3)).trans hw339_3), ((HB.out.cell (zQ w _ hw339_4)).trans hw339_4), ((HB.out.cell (zQ w _ hw339_5)).trans hw339_5), ((HB.out.cell (zQ w _ hw339_6)).trans hw339_6), ((HB.out.cell (zQ w _ hw339_7)).trans hw339_7), ((HB.out.cell (zQ w _ hw339_8)).trans hw339_8), ((HB.out.cell (zQ w _ hw339_9)).trans hw339_9), ((HB.out.cell (zQ w _ hw339_10)).trans hw339_10), ((HB.out.cell (zQ w _ hw340_0)).trans hw340_0), ((HB.out.cell (zQ w _ hw340_1)).trans hw340_1), ((HB.out.cell (zQ w _ hw340_2)).trans hw340_2), ((HB.out.cell (zQ w _ hw340_3)).trans hw340_3), ((HB.out.cell (zQ w _ hw340_4)).trans hw340_4), ((HB.out.cell (zQ w _ hw340_5)).trans hw340_5), ((HB.out.cell (zQ w _ hw340_6)).trans hw340_6), ((HB.out.cell (zQ w _ hw340_7)).trans hw340_7), ((HB.out.cell (zQ w _ hw340_8)).trans hw340_8), ((HB.out.cell (zQ w _ hw340_9)).trans hw340_9), ((HB.out.cell (zQ w _ hw340_10)).trans hw340_10), ((HB.out.cell (zQ w _ hw341_0)).trans hw341_0), ((HB.out.cell (zQ w _ hw341_1)).trans hw341_1), ((HB.out.cell (zQ w _ hw341_2)).trans hw341_2), ((HB.out.cell (zQ w _ hw341_3)).trans hw341_3), ((HB.out.cell (zQ w _ hw341_4)).trans hw341_4), ((HB.out.cell (zQ w _ hw341_5)).trans hw341_5), ((HB.out.cell (zQ w _ hw341_6)).trans hw341_6), ((HB.out.cell (zQ w _ hw341_7)).trans hw341_7), ((HB.out.cell (zQ w _ hw341_8)).trans hw341_8), ((HB.out.cell (zQ w _ hw341_9)).trans hw341_9), ((HB.out.cell (zQ w _ hw341_10)).trans hw341_10), ((HB.out.cell (zQ w _ hw342_0)).trans hw342_0), ((HB.out.cell (zQ w _ hw342_1)).trans hw342_1), ((HB.out.cell (zQ w _ hw342_2)).trans hw342_2), ((HB.out.cell (zQ w _ hw342_3)).trans hw342_3), ((HB.out.cell (zQ w _ hw342_4)).trans hw342_4), ((HB.out.cell (zQ w _ hw342_5)).trans hw342_5), ((HB.out.cell (zQ w _ hw342_6)).trans hw342_6), ((HB.out.cell (zQ w _ hw342_7)).trans hw342_7), ((HB.out.cell (zQ w _ hw342_8)).trans hw342_8), ((HB.out.cell (zQ w _ hw342_9)).trans hw342_9), ((HB.out.cell (zQ w _ hw342_10)).trans hw342_10)⟩ (fun hHeld => ?_); refine with_tabW spec_SameType.tab6 spec_SameType.bits6 (fun HT_ HW_ => ?_)
           generalize wr.drew = w51 at BK337 BK338 HB HR339_6 HR339_7 HR339_8 HR339_9 HR340_6 HR340_7 HR340_8 HR340_9 HR341_6 HR341_7 HR341_8 HR341_9 HR342_6 HR342_7 HR342_8 HR342_9 hx339_0 hx339_1 hx339_10 hx339_2 hx339_3 hx339_4 hx339_5 hx339_6 hx339_7 hx339_8 hx339_9 hx340_0 hx340_1 hx340_10 hx340_2 hx340_3 hx340_4 hx340_5 hx340_6 hx340_7 hx340_8 hx340_9 hx341_0 hx341_1 hx341_10 hx341_2 hx341_3 hx341_4 hx341_5 hx341_6 hx341_7 hx341_8 hx341_9 hx342_0 hx342_1 hx342_10 hx342_2 hx342_3 hx342_4 hx342_5 hx342_6 hx342_7 hx342_8 hx342_9 hHeld ⊢
           refine qA 0 65 (bz 44 1) HT_ ?_
           refine qA 2 67 (bz 44 5) HT_ ?_
           refine qA 6 71 (bz 44 69) HT_ ?_
           refine qA 8 73 (bz 44 325) HT_ ?_
           refine qC 1 66 (bz 44 327) HT_ HW_ hHeld ?_ (hy := by rintro w' ⟨s0, s1, s2, s3, s4, s5, s6, s7, s8, s9, s10, s11, s12, s13, s14, s15, s16, s17, s18, s19, s20, s21, s22, s23, s24, s25, s26, s27, s28, s29, s30, s31, s32, s33, s34, s35, s36, s37, s38, s39, s40, s41, s42, s43, s44, s45, s46, s47, s48, s49, s50, s51, s52, s53, s54, s55, s56, s57, s58, s59, s60, s61⟩; go_simp; with_reducible rfl)
           refine qA 3 68 (bz 44 335) HT_ ?_
           refine qA 4 69 (bz 44 351) HT_ ?_
           refine qC 5 70 (bz 44 383) HT_ HW_ hHeld ?_ (hy := by rintro w' ⟨s0, s1, s2, s3, s4, s5, s6, s7, s8, s9, s10, s11, s12, s13, s14, s15, s16, s17, s18, s19, s20, s21, s22, s23, s24, s25, s26, s27, s28, s29, s30, s31, s32, s33, s34, s35, s36, s37, s38, s39, s40, s41, s42, s43, s44, s45, s46, s47, s48, s49, s50, s51, s52, s53, s54, s55, s56, s57, s58, s59, s60, s61⟩; go_simp; with_reducible rfl)
           refine qC 7 72 (bz 44 511) HT_ HW_ hHeld ?_ (hy := by rintro w' ⟨s0, s1, s2, s3, s4, s5, s6, s7, s8, s9, s10, s11, s12, s13, s14, s15, s16, s17, s18, s19, s20, s21, s22, s23, s24, s25, s26, s27, s28, s29, s30, s31, s32, s33, s34, s35, s36, s37, s38, s39, s40, s41, s42, s43, s44, s45, s46, s47, s48, s49, s50, s51, s52, s53, s54, s55, s56, s57, s58, s59, s60, s61⟩; go_simp; with_reducible rfl)
           refine qA 9 74 (bz 44 1023) HT_ ?_
           refine qA 10 75 (bz 44 2047) HT_ ?_
           refine qC 11 76 (bz 44 4095) HT_ HW_ hHeld ?_ (hy := by rintro w' ⟨s0, s1, s2, s3, s4, s5, s6, s7, s8, s9, s10, s11, s12, s13, s14, s15, s16, s17, s18, s19, s20, s21, s22, s23, s24, s25, s26, s27, s28, s29, s30, s31, s32, s33, s34, s35, s36, s37, s38, s39, s40, s41, s42, s43, s44, s45, s46, s47, s48, s49, s50, s51, s52, s53, s54, s55, s56, s57, s58, s59, s60, s61⟩; go_simp; with_reducible rfl)
           refine qA 12 77 (bz 44 8191) HT_ ?_
           refine qA 13 78 (bz 44 16383) HT_ ?_
           refine qA 14 79 (bz 44 32767) HT_ ?_
           refine qA 16 81 (bz 44 98303) HT_ ?_
           refine qA 20 85 (bz 44 1146879) HT_ ?_
           refine qA 22 87 (bz 44 5341183) HT_ ?_
           refine qC 15 80 (bz 44 5373951) HT_ HW_ hHeld ?_ (hy := by rintro w' ⟨s0, s1, s2, s3, s4, s5, s6, s7, s8, s9, s10, s11, s12, s13, s14, s15, s16, s17, s18, s19, s20, s21, s22, s23, s24, s25, s26, s27, s28, s29, s30, s31, s32, s33, s34, s35, s36, s37, s38, s39, s40, s41, s42, s43, s44, s45, s46, s47, s48, s49, s50, s51, s52, s53, s54, s55, s56, s57, s58, s59, s60, s61⟩; go_simp; with_reducible rfl)
           refine qA 17 82 (bz 44 5505023) HT_ ?_
           refine qA 18 83 (bz 44 5767167) HT_ ?_
           refine qC 19 84 (bz 44 6291455) HT_ HW_ hHeld ?_ (hy := by rintro w' ⟨s0, s1, s2, s3, s4, s5, s6, s7, s8, s9, s10, s11, s12, s13, s14, s15, s16, s17, s18, s19, s20, s21, s22, s23, s24, s25, s26, s27, s28, s29, s30, s31, s32, s33, s34, s35, s36, s37, s38, s39, s40, s41, s42, s43, s44, s45, s46, s47, s48, s49, s50, s51, s52, s53, s54, s55, s56, s57, s58, s59, s60, s61⟩; go_simp; with_reducible rfl)
           refine qC 21 86 (bz 44 8388607) HT_ HW_ hHeld ?_ (hy := by rintro w' ⟨s0, s1, s2, s3, s4, s5, s6, s7, s8, s9, s10, s11, s12, s13, s14, s15, s16, s17, s18, s19, s20, s21, s22, s23, s24, s25, s26, s27, s28, s29, s30, s31, s32, s33, s34, s35, s36, s37, s38, s39, s40, s41, s42, s43, s44, s45, s46, s47, s48, s49, s50, s51, s52, s53, s54, s55, s56, s57, s58, s59, s60, s61⟩; go_simp; with_reducible rfl)
           refine qA 23 88 (bz 44 16777215) HT_ ?_
           refine qA 24 89 (bz 44 33554431) HT_ ?_
           refine qC 25 90 (bz 44 67108863) HT_ HW_ hHeld ?_ (hy := by rintro w' ⟨s0, s1, s2, s3, s4, s5, s6, s7, s8, s9, s10, s11, s12, s13, s14, s15, s16, s17, s18, s19, s20, s21, s22, s23, s24, s25, s26, s27, s28, s29, s30, s31, s32, s33, s34, s35, s36, s37, s38, s39, s40, s41, s42, s43, s44, s45, s46, s47, s48, s49, s50, s51, s52, s53, s54, s55, s56, s57, s58, s59, s60, s61⟩; go_simp; with_reducible rfl)
           refine qA 26 91 (bz 44 134217727) HT_ ?_
           refine qA 27 92 (bz 44 268435455) HT_ ?_
           refine qA 28 93 (bz 44 536870911) HT_ ?_
           refine qB 29 94 (bz 44 1073741823) HT_ ?_
           refine qB 30 95 (bz 44 2147483647) HT_ ?_
           refine qB 31 96 (bz 44 4294967295) HT_ ?_
           refine qB 32 97 (bz 44 8589934591) HT_ ?_
           refine qB 33 98 (bz 44 17179869183) HT_ ?_
           refine qB 34 99 (bz 44 34359738367) HT_ ?_
           refine qB 35 100 (bz 44 68719476735) HT_ ?_
           refine qB 36 101 (bz 44 137438953471) HT_ ?_
           refine qB 37 102 (bz 44 274877906943) HT_ ?_
           refine qB 38 103 (bz 44 549755813887) HT_ ?_
           refine qB 39 104 (bz 44 1099511627775) HT_ ?_
           refine qB 40 105 (bz 44 2199023255551) HT_ ?_
           refine qB 41 106 (bz 44 4398046511103) HT_ ?_
           refine qB 42 107 (bz 44 8796093022207) HT_ ?_
           refine qA 43 108 (bz 44 17592186044415) HT_ ?_
           refine done_ (done_of HT_.out (by kernel_rfl)) ?_
           try go_wp2
           go_ret
           exact ⟨by first | rfl | (simp <;> rfl) | (simp [*] <;> rfl), kR0 HB⟩
         ·
          rw [if_neg c37] at H
          have c37b0 : (((rd_T64 l0_6 x5_2).f0).toList == ((rd_T64 l1_6 x5_2).f0).toList) = false := beq_eq_false_iff_ne.mpr c37
          have c37b1 : (((rd_T64 l0_6 x5_2).f0).toList != ((rd_T64 l1_6 x5_2).f0).toList) = true := bne_iff_ne.mpr c37
          obtain rfl := Option.some.inj H; have hnb52 := NB337_338.out; have hnc52 := NB338_337.out
          obtain ⟨hcz53_0, hcz53_1, hcz53_2, hcz53_3, hcz53_4, hcz53_5, hcz53_6, hcz53_7, hcz53_8⟩ := cz9 BK337.out
          obtain ⟨hfz53_0, hfz53_1, hfz53_2, hfz53_3, hfz53_4, hfz53_5, hfz53_6, hfz53_7, hfz53_8⟩ := fz9 BK337.out
          try go_wp2
          have n0_ := yD (yO BK337.out)
          have n1_ := yD (yO BK338.out)
          have n2_ := yD (yP HB.out)
          clear BK337 BK338 HB; have BK337 := n0_; have BK338 := n1_; have HB := n2_; clear n0_ n1_ n2_
          have p339 : 0 ≤ (x5_2 : Int) := zP (by assumption)
          have q339 : x5_2 < (l0_6.length : Int) := zP (by assumption)
          obtain ⟨ad339, A339_6, c339_6, A339_7, c339_7, A339_8, c339_8, A339_9, c339_9, e339, hx339_0, hx339_1, hx339_2, hx339_3, hx339_4, hx339_5, hx339_6, hx339_7, hx339_8, hx339_9, hx339_10, hl339_6, hi339_6, hl339_7, hi339_7, hl339_8, hi339_8, hl339_9, hi339_9⟩ := at_T64 HR0_6.out x5_2 p339 q339
          have hw339_10 := hx339_10; have hw339_9 := hx339_9; have hw339_8 := hx339_8; have hw339_7 := hx339_7; have hw339_6 := hx339_6; have hw339_5 := hx339_5; have hw339_4 := hx339_4; have hw339_3 := hx339_3; have hw339_2 := hx339_2; have hw339_1 := hx339_1; have hw339_0 := hx339_0; cases e339
          replace hx339_0 := kCx3_ HB hx339_0
          replace hx339_1 := kCx3_ HB hx339_1
          replace hx339_2 := kCx3_ HB hx339_2
          replace hx339_3 := kCx3_ HB hx339_3
          replace hx339_4 := kCx3_ HB hx339_4
          replace hx339_5 := kCx3_ HB hx339_5
          replace hx339_6 := kCx3_ HB hx339_6
          replace hx339_7 := kCx3_ HB hx339_7
          replace hx339_8 := kCx3_ HB hx339_8
          replace hx339_9 := kCx3_ HB hx339_9
          replace hx339_10 := kCx3_ HB hx339_10
          have HR339_6 := yD hi339_6
          have HC339_6 := yD hl339_6
          clear hi339_6 hl339_6
          have HR339_7 := yD hi339_7
          have HC339_7 := yD hl339_7
          clear hi339_7 hl339_7
          have HR339_8 := yD hi339_8
          have HC339_8 := yD hl339_8
          clear hi339_8 hl339_8
          have HR339_9 := yD hi339_9
          have HC339_9 := yD hl339_9
          clear hi339_9 hl339_9; replace p339 := eq_true p339; replace q339 := eq_true q339
          have p340 : 0 ≤ (x5_2 : Int) := zP (by assumption)
          have q340 : x5_2 < (l1_6.length : Int) := zP (by assumption)
          obtain ⟨ad340, A340_6, c340_6, A340_7, c340_7, A340_8, c340_8, A340_9, c340_9, e340, hx340_0, hx340_1, hx340_2, hx340_3, hx340_4, hx340_5, hx340_6, hx340_7, hx340_8, hx340_9, hx340_10, hl340_6, hi340_6, hl340_7, hi340_7, hl340_8, hi340_8, hl340_9, hi340_9⟩ := at_T64 HR1_6.out x5_2 p340 q340
          have hw340_10 := hx340_10; have hw340_9 := hx340_9; have hw340_8 := hx340_8; have hw340_7 := hx340_7; have hw340_6 := hx340_6; have hw340_5 := hx340_5; have hw340_4 := hx340_4; have hw340_3 := hx340_3; have hw340_2 := hx340_2; have hw340_1 := hx340_1; have hw340_0 := hx340_0; cases e340
          replace hx340_0 := kCx3_ HB hx340_0
          replace hx340_1 := kCx3_ HB hx340_1
          replace hx340_2 := kCx3_ HB hx340_2
          replace hx340_3 := kCx3_ HB hx340_3
          replace hx340_4 := kCx3_ HB hx340_4
          replace hx340_5 := kCx3_ HB hx340_5
          replace hx340_6 := kCx3_ HB hx340_6
          replace hx340_7 := kCx3_ HB hx340_7
          replace hx340_8 := kCx3_ HB hx340_8
          replace hx340_9 := kCx3_ HB hx340_9
          replace hx340_10 := kCx3_ HB hx340_10
          have HR340_6 := yD hi340_6
          have HC340_6 := yD hl340_6
          clear hi340_6 hl340_6
          have HR340_7 := yD hi340_7
          have HC340_7 := yD hl340_7
          clear hi340_7 hl340_7
          have HR340_8 := yD hi340_8
          have HC340_8 := yD hl340_8
          clear hi340_8 hl340_8
          have HR340_9 := yD hi340_9
          have HC340_9 := yD hl340_9
          clear hi340_9 hl340_9; replace p340 := eq_true p340; replace q340 := eq_true q340
          refine start_ (n := 44) (S := fun w' => w'.cell? ⟨gb337, 0, none⟩ = some (.int .i64 a0_0) ∧ w'.cell? ⟨gb337, 1, none⟩ = some (.int .i64 a0_1) ∧ w'.cell? ⟨gb337, 2, none⟩ = some (.bool a0_2) ∧ w'.cell? ⟨gb337, 3, none⟩ = some (.bool a0_3) ∧ w'.cell? ⟨gb337, 4, none⟩ = some (.slice A0_4 l0_4.length c0_4) ∧ w'.cell? ⟨gb337, 5, none⟩ = some (.slice A0_5 l0_5.length c0_5) ∧ w'.cell? ⟨gb337, 6, none⟩ = some (.slice (some ad339) l0_6.length c0_6) ∧ w'.cell? ⟨gb337, 7, none⟩ = some (.slice A0_7 l0_7.length c0_7) ∧ w'.cell? ⟨gb337, 8, none⟩ = some (.int .i64 a0_8) ∧ w'.cell? ⟨gb338, 0, none⟩ = some (.int .i64 a1_0) ∧ w'.cell? ⟨gb338, 1, none⟩ = some (.int .i64 a1_1) ∧ w'.cell? ⟨gb338, 2, none⟩ = some (.bool a1_2) ∧ w'.cell? ⟨gb338, 3, none⟩ = some (.bool a1_3) ∧ w'.cell? ⟨gb338, 4, none⟩ = some (.slice A1_4 l1_4.length c1_4) ∧ w'.cell? ⟨gb338, 5, none⟩ = some (.slice A1_5 l1_5.length c1_5) ∧ w'.cell? ⟨gb338, 6, none⟩ = some (.slice (some ad340) l1_6.length c1_6) ∧ w'.cell? ⟨gb338, 7, none⟩ = some (.slice A1_7 l1_7.length c1_7) ∧ w'.cell? ⟨gb338, 8, none⟩ = some (.int .i64 a1_8) ∧ w'.cell? (ad339.add ((x5_2).toNat * 11)) = some (.string ((rd_T64 l0_6 x5_2).f0)) ∧ w'.cell? ⟨(ad339.add ((x5_2).toNat * 11)).block, (ad339.add ((x5_2).toNat * 11)).off + 1, none⟩ = some (.int .i64 ((rd_T64 l0_6 x5_2).f1)) ∧ w'.cell? ⟨(ad339.add ((x5_2).toNat * 11)).block, (ad339.add ((x5_2).toNat * 11)).off + 2, none⟩ = some (.int .i64 ((rd_T64 l0_6 x5_2).f2.f0)) ∧ w'.cell? ⟨(ad339.add ((x5_2).toNat * 11)).block, (ad339.add ((x5_2).toNat * 11)).off + 3, none⟩ = some (.int .i64 ((rd_T64 l0_6 x5_2).f2.f1)) ∧ w'.cell? ⟨(ad339.add ((x5_2).toNat * 11)).block, (ad339.add ((x5_2).toNat * 11)).off + 4, none⟩ = some (.bool ((rd_T64 l0_6 x5_2).f2.f2)) ∧ w'.cell? ⟨(ad339.add ((x5_2).toNat * 11)).block, (ad339.add ((x5_2).toNat * 11)).off + 5, none⟩ = some (.bool ((rd_T64 l0_6 x5_2).f2.f3)) ∧ w'.cell? ⟨(ad339.add ((x5_2).toNat * 11)).block, (ad339.add ((x5_2).toNat * 11)).off + 6, none⟩ = some (.slice A339_6 ((rd_T64 l0_6 x5_2).f2.f4).length c339_6) ∧ w'.cell? ⟨(ad339.add ((x5_2).toNat * 11)).block, (ad339.add ((x5_2).toNat * 11)).off + 7, none⟩ = some (.slice A339_7 ((rd_T64 l0_6 x5_2).f2.f5).length c339_7) ∧ w'.cell? ⟨(ad339.add ((x5_2).toNat * 11)).block, (ad339.add ((x5_2).toNat * 11)).off + 8, none⟩ = some (.slice A339_8 ((rd_T64 l0_6 x5_2).f2.f6).length c339_8) ∧ w'.cell? ⟨(ad339.add ((x5_2).toNat * 11)).block, (ad339.add ((x5_2).toNat * 11)).off + 9, none⟩ = some (.slice A339_9 ((rd_T64 l0_6 x5_2).f2.f7).length c339_9) ∧ w'.cell? ⟨(ad339.add ((x5_2).toNat * 11)).block, (ad339.add ((x5_2).toNat * 11)).off + 10, none⟩ = some (.int .i64 ((rd_T64 l0_6 x5_2).f2.f8)) ∧ w'.cell? (ad340.add ((x5_2).toNat * 11)) = some (.string ((rd_T64 l1_6 x5_2).f0)) ∧ w'.cell? ⟨(ad340.add ((x5_2).toNat * 11)).block, (ad340.add ((x5_2).toNat * 11)).off + 1, none⟩ = some (.int .i64 ((rd_T64 l1_6 x5_2).f1)) ∧ w'.cell? ⟨(ad340.add ((x5_2).toNat * 11)).block, (ad340.add ((x5_2).toNat * 11)).off + 2, none⟩ = some (.int .i64 ((rd_T64 l1_6 x5_2).f2.f0)) ∧ w'.cell? ⟨(ad340.add ((x5_2).toNat * 11)).block, (ad340.add ((x5_2).toNat * 11)).off + 3, none⟩ = some (.int .i64 ((rd_T64 l1_6 x5_2).f2.f1)) ∧ w'.cell? ⟨(ad340.add ((x5_2).toNat * 11)).block, (ad340.add ((x5_2).toNat * 11)).off + 4, none⟩ = some (.bool ((rd_T64 l1_6 x5_2).f2.f2)) ∧ w'.cell? ⟨(ad340.add ((x5_2).toNat * 11)).block, (ad340.add ((x5_2).toNat * 11)).off + 5, none⟩ = some (.bool ((rd_T64 l1_6 x5_2).f2.f3)) ∧ w'.cell? ⟨(ad340.add ((x5_2).toNat * 11)).block, (ad340.add ((x5_2).toNat * 11)).off + 6, none⟩ = some (.slice A340_6 ((rd_T64 l1_6 x5_2).f2.f4).length c340_6) ∧ w'.cell? ⟨(ad340.add ((x5_2).toNat * 11)).block, (ad340.add ((x5_2).toNat * 11)).off + 7, none⟩ = some (.slice A340_7 ((rd_T64 l1_6 x5_2).f2.f5).length c340_7) ∧ w'.cell? ⟨(ad340.add ((x5_2).toNat * 11)).block, (ad340.add ((x5_2).toNat * 11)).off + 8, none⟩ = some (.slice A340_8 ((rd_T64 l1_6 x5_2).f2.f6).length c340_8) ∧ w'.cell? ⟨(ad340.add ((x5_2).toNat * 11)).block, (ad340.add ((x5_2).toNat * 11)).off + 9, none⟩ = some (.slice A340_9 ((rd_T64 l1_6 x5_2).f2.f7).length c340_9) ∧ w'.cell? ⟨(ad340.add ((x5_2).toNat * 11)).block, (ad340.add ((x5_2).toNat * 11)).off + 10, none⟩ = some (.int .i64 ((rd_T64 l1_6 x5_2).f2.f8))) (ds := []) (bz 44 0) (by kernel_rfl) rfl rfl ⟨(yG BK337.out 0).trans rfl, (yG BK337.out 1).trans rfl, (yG BK337.out 2).trans rfl, (yG BK337.out 3).trans rfl, (yG BK337.out 4).trans rfl, (yG BK337.out 5).trans rfl, (yG BK337.out 6).trans rfl, (yG BK337.out 7).trans rfl, (yG BK337.out 8).trans rfl, (yG BK338.out 0).trans rfl, (yG BK338.out 1).trans rfl, (yG BK338.out 2).trans rfl, (yG BK338.out 3).trans rfl, (yG BK338.out 4).trans rfl, (yG BK338.out 5).trans rfl, (yG BK338.out 6).trans rfl, (yG BK338.out 7).trans rfl, (yG BK338.out 8).trans rfl, ((HB.out.cell (zQ w _ hw339_0)).trans hw339_0), ((HB.out.cell (zQ w _ hw339_1)).trans hw339_1), ((HB.out.cell (zQ w _ hw339_2)).trans hw339_2), ((HB.out.cell (zQ w _ hw339_3)).trans hw339_3), ((HB.out.cell (zQ w _ hw339_4)).trans hw339_4), ((HB.out.cell (zQ w _ hw339_5)).trans hw339_5), ((HB.out.cell (zQ w _ hw339_6)).trans hw339_6), ((HB.out.cell (zQ w _ hw339_7)).trans hw339_7), ((HB.out.cell (zQ w _ hw339_8)).trans hw339_8), ((HB.out.cell (zQ w _ hw339_9)).trans hw339_9), ((HB.out.cell (zQ w _ hw339_10)).trans hw339_10), ((HB.out.cell (zQ w _ hw340_0)).trans hw340_0), ((HB.out.cell (zQ w _ hw340_1)).trans hw340_1), ((HB.out.cell (zQ w _ hw340_2)).trans hw340_2), ((HB.out.cell (zQ w _ hw340_3)).trans hw340_3), ((HB.out.cell (zQ w _ hw340_4)).trans hw340_4), ((HB.out.cell (zQ w _ hw340_5)).trans hw340_5), ((HB.out.cell (zQ w _ hw340_6)).trans hw340_6), ((HB.out.cell (zQ w _ hw340_7)).trans hw340_7), ((HB.out.cell (zQ w _ hw340_8)).trans hw340_8), ((HB.out.cell (zQ w _ hw340_9)).trans hw340_9), ((HB.out.cell (zQ w _ hw340_10)).trans hw340_10)⟩ (fun hHeld => ?_); refine with_tabW spec_SameType.tab6 spec_SameType.bits6 (fun HT_ HW_ => ?_)
          generalize wr.drew = w54 at BK337 BK338 HB HR339_6 HR339_7 HR339_8 HR339_9 HR340_6 HR340_7 HR340_8 HR340_9 hx339_0 hx339_1 hx339_10 hx339_2 hx339_3 hx339_4 hx339_5 hx339_6 hx339_7 hx339_8 hx339_9 hx340_0 hx340_1 hx340_10 hx340_2 hx340_3 hx340_4 hx340_5 hx340_6 hx340_7 hx340_8 hx340_9 hHeld ⊢
          refine qA 0 65 (bz 44 1) HT_ ?_
          refine qA 2 67 (bz 44 5) HT_ ?_
          refine qA 6 71 (bz 44 69) HT_ ?_
          refine qA 8 73 (bz 44 325) HT_ ?_
          refine qC 1 66 (bz 44 327) HT_ HW_ hHeld ?_ (hy := by rintro w' ⟨s0, s1, s2, s3, s4, s5, s6, s7, s8, s9, s10, s11, s12, s13, s14, s15, s16, s17, s18, s19, s20, s21, s22, s23, s24, s25, s26, s27, s28, s29, s30, s31, s32, s33, s34, s35, s36, s37, s38, s39⟩; go_simp; with_reducible rfl)
          refine qA 3 68 (bz 44 335) HT_ ?_
          refine qA 4 69 (bz 44 351) HT_ ?_
          refine qC 5 70 (bz 44 383) HT_ HW_ hHeld ?_ (hy := by rintro w' ⟨s0, s1, s2, s3, s4, s5, s6, s7, s8, s9, s10, s11, s12, s13, s14, s15, s16, s17, s18, s19, s20, s21, s22, s23, s24, s25, s26, s27, s28, s29, s30, s31, s32, s33, s34, s35, s36, s37, s38, s39⟩; go_simp; with_reducible rfl)
          refine qC 7 72 (bz 44 511) HT_ HW_ hHeld ?_ (hy := by rintro w' ⟨s0, s1, s2, s3, s4, s5, s6, s7, s8, s9, s10, s11, s12, s13, s14, s15, s16, s17, s18, s19, s20, s21, s22, s23, s24, s25, s26, s27, s28, s29, s30, s31, s32, s33, s34, s35, s36, s37, s38, s39⟩; go_simp; with_reducible rfl)
          refine qA 9 74 (bz 44 1023) HT_ ?_
          refine qA 10 75 (bz 44 2047) HT_ ?_
          refine qC 11 76 (bz 44 4095) HT_ HW_ hHeld ?_ (hy := by rintro w' ⟨s0, s1, s2, s3, s4, s5, s6, s7, s8, s9, s10, s11, s12, s13, s14, s15, s16, s17, s18, s19, s20, s21, s22, s23, s24, s25, s26, s27, s28, s29, s30, s31, s32, s33, s34, s35, s36, s37, s38, s39⟩; go_simp; with_reducible rfl)
          refine qA 12 77 (bz 44 8191) HT_ ?_
          refine qA 13 78 (bz 44 16383) HT_ ?_
          refine qB 14 79 (bz 44 32767) HT_ ?_
          refine qB 15 80 (bz 44 65535) HT_ ?_
          refine qB 16 81 (bz 44 131071) HT_ ?_
          refine qB 17 82 (bz 44 262143) HT_ ?_
          refine qB 18 83 (bz 44 524287) HT_ ?_
          refine qB 19 84 (bz 44 1048575) HT_ ?_
          refine qB 20 85 (bz 44 2097151) HT_ ?_
          refine qB 21 86 (bz 44 4194303) HT_ ?_
          refine qB 22 87 (bz 44 8388607) HT_ ?_
          refine qB 23 88 (bz 44 16777215) HT_ ?_
          refine qB 24 89 (bz 44 33554431) HT_ ?_
          refine qB 25 90 (bz 44 67108863) HT_ ?_
          refine qB 26 91 (bz 44 134217727) HT_ ?_
          refine qA 27 92 (bz 44 268435455) HT_ ?_
          refine qA 28 93 (bz 44 536870911) HT_ ?_
          refine qB 29 94 (bz 44 1073741823) HT_ ?_
          refine qB 30 95 (bz 44 2147483647) HT_ ?_
          refine qB 31 96 (bz 44 4294967295) HT_ ?_
          refine qB 32 97 (bz 44 8589934591) HT_ ?_
          refine qB 33 98 (bz 44 17179869183) HT_ ?_
          refine qB 34 99 (bz 44 34359738367) HT_ ?_
          refine qB 35 100 (bz 44 68719476735) HT_ ?_
          refine qB 36 101 (bz 44 137438953471) HT_ ?_
          refine qB 37 102 (bz 44 274877906943) HT_ ?_
          refine qB 38 103 (bz 44 549755813887) HT_ ?_
          refine qB 39 104 (bz 44 1099511627775) HT_ ?_
          refine qB 40 105 (bz 44 2199023255551) HT_ ?_
          refine qB 41 106 (bz 44 4398046511103) HT_ ?_
          refine qB 42 107 (bz 44 8796093022207) HT_ ?_
          refine qA 43 108 (bz 44 17592186044415) HT_ ?_
          refine done_ (done_of HT_.out (by kernel_rfl)) ?_
          try go_wp2
          go_ret
          exact ⟨by first | rfl | (simp <;> rfl) | (simp [*] <;> rfl), kR0 HB⟩
        · rw [if_neg c36] at H
          exact absurd H (by simp)
       · rw [if_neg c35] at H
         exact absurd H (by simp)
      ·
       rw [if_neg c34] at H
       have c34b0 : decide (x5_2 < (l0_6.length : Int)) = false := zS c34; clear c34
       have H' := yD H
       clear H; have hnb55 := NB337_338.out; have hnc55 := NB338_337.out
       obtain ⟨hcz56_0, hcz56_1, hcz56_2, hcz56_3, hcz56_4, hcz56_5, hcz56_6, hcz56_7, hcz56_8⟩ := cz9 BK337.out
       obtain ⟨hfz56_0, hfz56_1, hfz56_2, hfz56_3, hfz56_4, hfz56_5, hfz56_6, hfz56_7, hfz56_8⟩ := fz9 BK337.out
       go_wp2
       go_loopg [6] k2 (fun kq v6 w' => ∃ (x6_3 : Int), v6 = .int .i64 x6_3 ∧ Aside0 (spec_SameType.l1 kq x6_3 a0_0 a0_1 a0_2 a0_3 l0_4 l0_5 l0_6 l0_7 a0_8 a1_0 a1_1 a1_2 a1_3 l1_4 l1_5 l1_6 l1_7 a1_8 = some r) ∧ Aside0 (kq ≤ k2) ∧ Aside0 (w'.heap[gb337]? = some (.cells #[.int .i64 a0_0, .int .i64 a0_1, .bool a0_2, .bool a0_3, (.slice A0_4 l0_4.length c0_4), (.slice A0_5 l0_5.length c0_5), (.slice A0_6 l0_6.length c0_6), (.slice A0_7 l0_7.length c0_7), .int .i64 a0_8] 33 (0, 0))) ∧ Aside0 (w'.heap[gb338]? = some (.cells #[.int .i64 a1_0, .int .i64 a1_1, .bool a1_2, .bool a1_3, (.slice A1_4 l1_4.length c1_4), (.slice A1_5 l1_5.length c1_5), (.slice A1_6 l1_6.length c1_6), (.slice A1_7 l1_7.length c1_7), .int .i64 a1_8] 33 (0, 0))) ∧ Aside0 (Below w.heap.size w w'))
       case atStart => exact ⟨(0), (by first | rfl | (simp; done) | (simp [*]; done)), H', ⟨Nat.le_refl _⟩, ⟨kM BK337⟩, ⟨kM BK338⟩, ⟨kR0 HB⟩⟩
       case round =>
        clear H'
        try clear c1; try clear c33; try clear c34; try clear c34b0; try clear c35; try clear c36; try clear c37; try clear c37b0; try clear c37b1; try clear hcz53_0; try clear hcz53_1; try clear hcz53_2; try clear hcz53_3; try clear hcz53_4; try clear hcz53_5; try clear hcz53_6; try clear hcz53_7; try clear hcz53_8; try clear hcz56_0; try clear hcz56_1; try clear hcz56_2; try clear hcz56_3; try clear hcz56_4; try clear hcz56_5; try clear hcz56_6; try clear hcz56_7; try clear hcz56_8; try clear hfz53_0; try clear hfz53_1; try clear hfz53_2; try clear hfz53_3; try clear hfz53_4; try clear hfz53_5; try clear hfz53_6; try clear hfz53_7; try clear hfz53_8; try clear hfz56_0; try clear hfz56_1; try clear hfz56_2; try clear hfz56_3; try clear hfz56_4; try clear hfz56_5; try clear hfz56_6; try clear hfz56_7; try clear hfz56_8; try clear hx339_0; try clear hx339_1; try clear hx339_10; try clear hx339_2; try clear hx339_3; try clear hx339_4; try clear hx339_5; try clear hx339_6; try clear hx339_7; try clear hx339_8; try clear hx339_9; try clear hx340_0; try clear hx340_1; try clear hx340_10; try clear hx340_2; try clear hx340_3; try clear hx340_4; try clear hx340_5; try clear hx340_6; try clear hx340_7; try clear hx340_8; try clear hx340_9; try clear p339; try clear p340; try clear q339; try clear q340
        obtain ⟨x6_3, rfl, HA, HK3, BK337, BK338, HB⟩ := hrel
        cases gk with
        | zero => exact absurd HA.out (by simp [spec_SameType.l1])
        | succ k3 =>
         have H := HA.out; clear HA
         simp only [spec_SameType.l1] at H
         by_cases c57 : x6_3 < (l0_7.length : Int)
         ·
          rw [if_pos c57] at H
          have c57b0 : decide (x6_3 < (l0_7.length : Int)) = true := zR c57; clear c57
          by_cases c58 : 0 ≤ x6_3
          ·
           rw [if_pos c58] at H
           have c58b0 : decide (0 ≤ x6_3) = true := zR c58; clear c58
           by_cases c59 : x6_3 < (l1_7.length : Int)
           ·
            rw [if_pos c59] at H
            have c59b0 : decide (x6_3 < (l1_7.length : Int)) = true := zR c59; clear c59
            obtain ⟨t348, A600, H⟩ := zW_ H
            replace H : (if t348 = true then (spec_SameType.l1 k3 (wrap64 (x6_3 + 1)) a0_0 a0_1 a0_2 a0_3 l0_4 l0_5 l0_6 l0_7 a0_8 a1_0 a1_1 a1_2 a1_3 l1_4 l1_5 l1_6 l1_7 a1_8) else (some false)) = some r := H
            have A60 := yD A600
            clear A600
            by_cases c61 : t348 = true
            ·
             subst c61
             replace H : (spec_SameType.l1 k3 (wrap64 (x6_3 + 1)) a0_0 a0_1 a0_2 a0_3 l0_4 l0_5 l0_6 l0_7 a0_8 a1_0 a1_1 a1_2 a1_3 l1_4 l1_5 l1_6 l1_7 a1_8) = some r := (by rw [if_pos rfl] at H; exact H)
             have H' := yD H
             clear H; have hnb62 := NB337_338.out; have hnc62 := NB338_337.out
             obtain ⟨hcz63_0, hcz63_1, hcz63_2, hcz63_3, hcz63_4, hcz63_5, hcz63_6, hcz63_7, hcz63_8⟩ := cz9 BK337.out
             obtain ⟨hfz63_0, hfz63_1, hfz63_2, hfz63_3, hfz63_4, hfz63_5, hfz63_6, hfz63_7, hfz63_8⟩ := fz9 BK337.out
             try go_wp2
             have n0_ := yD (yO BK337.out)
             have n1_ := yD (yO BK338.out)
             have n2_ := yD (yP HB.out)
             clear BK337 BK338 HB; have BK337 := n0_; have BK338 := n1_; have HB := n2_; clear n0_ n1_ n2_
             have p346 : 0 ≤ (x6_3 : Int) := zP (by assumption)
             have q346 : x6_3 < (l0_7.length : Int) := zP (by assumption)
             obtain ⟨ad346, A346_4, c346_4, A346_5, c346_5, A346_6, c346_6, A346_7, c346_7, e346, hx346_0, hx346_1, hx346_2, hx346_3, hx346_4, hx346_5, hx346_6, hx346_7, hx346_8, hl346_4, hi346_4, hl346_5, hi346_5, hl346_6, hi346_6, hl346_7, hi346_7⟩ := at_T33 HR0_7.out x6_3 p346 q346
             have hw346_8 := hx346_8; have hw346_7 := hx346_7; have hw346_6 := hx346_6; have hw346_5 := hx346_5; have hw346_4 := hx346_4; have hw346_3 := hx346_3; have hw346_2 := hx346_2; have hw346_1 := hx346_1; have hw346_0 := hx346_0; cases e346
             replace hx346_0 := kCx3_ HB hx346_0
             replace hx346_1 := kCx3_ HB hx346_1
             replace hx346_2 := kCx3_ HB hx346_2
             replace hx346_3 := kCx3_ HB hx346_3
             replace hx346_4 := kCx3_ HB hx346_4
             replace hx346_5 := kCx3_ HB hx346_5
             replace hx346_6 := kCx3_ HB hx346_6
             replace hx346_7 := kCx3_ HB hx346_7
             replace hx346_8 := kCx3_ HB hx346_8
             have HR346_4 := yD hi346_4
             have HC346_4 := yD hl346_4
             clear hi346_4 hl346_4
             have HR346_5 := yD hi346_5
             have HC346_5 := yD hl346_5
             clear hi346_5 hl346_5
             have HR346_6 := yD hi346_6
             have HC346_6 := yD hl346_6
             clear hi346_6 hl346_6
             have HR346_7 := yD hi346_7
             have HC346_7 := yD hl346_7
             clear hi346_7 hl346_7; replace p346 := eq_true p346; replace q346 := eq_true q346
             have p347 : 0 ≤ (x6_3 : Int) := zP (by assumption)
             have q347 : x6_3 < (l1_7.length : Int) := zP (by assumption)
             obtain ⟨ad347, A347_4, c347_4, A347_5, c347_5, A347_6, c347_6, A347_7, c347_7, e347, hx347_0, hx347_1, hx347_2, hx347_3, hx347_4, hx347_5, hx347_6, hx347_7, hx347_8, hl347_4, hi347_4, hl347_5, hi347_5, hl347_6, hi347_6, hl347_7, hi347_7⟩ := at_T33 HR1_7.out x6_3 p347 q347
             have hw347_8 := hx347_8; have hw347_7 := hx347_7; have hw347_6 := hx347_6; have hw347_5 := hx347_5; have hw347_4 := hx347_4; have hw347_3 := hx347_3; have hw347_2 := hx347_2; have hw347_1 := hx347_1; have hw347_0 := hx347_0; cases e347
             replace hx347_0 := kCx3_ HB hx347_0
             replace hx347_1 := kCx3_ HB hx347_1
             replace hx347_2 := kCx3_ HB hx347_2
             replace hx347_3 := kCx3_ HB hx347_3
             replace hx347_4 := kCx3_ HB hx347_4
             replace hx347_5 := kCx3_ HB hx347_5
             replace hx347_6 := kCx3_ HB hx347_6
             replace hx347_7 := kCx3_ HB hx347_7
             replace hx347_8 := kCx3_ HB hx347_8
             have HR347_4 := yD hi347_4
             have HC347_4 := yD hl347_4
             clear hi347_4 hl347_4
             have HR347_5 := yD hi347_5
             have HC347_5 := yD hl347_5
             clear hi347_5 hl347_5
             have HR347_6 := yD hi347_6
             have HC347_6 := yD hl347_6
             clear hi347_6 hl347_6
             have HR347_7 := yD hi347_7
             have HC347_7 := yD hl347_7
             clear hi347_7 hl347_7; replace p347 := eq_true p347; replace q347 := eq_true q347
             refine start_ (n := 12) (S := fun w' => w'.cell? ⟨gb337, 0, none⟩ = some (.int .i64 a0_0) ∧ w'.cell? ⟨gb337, 1, none⟩ = some (.int .i64 a0_1) ∧ w'.cell? ⟨gb337, 2, none⟩ = some (.bool a0_2) ∧ w'.cell? ⟨gb337, 3, none⟩ = some (.bool a0_3) ∧ w'.cell? ⟨gb337, 4, none⟩ = some (.slice A0_4 l0_4.length c0_4) ∧ w'.cell? ⟨gb337, 5, none⟩ = some (.slice A0_5 l0_5.length c0_5) ∧ w'.cell? ⟨gb337, 6, none⟩ = some (.slice A0_6 l0_6.length c0_6) ∧ w'.cell? ⟨gb337, 7, none⟩ = some (.slice (some ad346) l0_7.length c0_7) ∧ w'.cell? ⟨gb337, 8, none⟩ = some (.int .i64 a0_8) ∧ w'.cell? ⟨gb338, 0, none⟩ = some (.int .i64 a1_0) ∧ w'.cell? ⟨gb338, 1, none⟩ = some (.int .i64 a1_1) ∧ w'.cell? ⟨gb338, 2, none⟩ = some (.bool a1_2) ∧ w'.cell? ⟨gb338, 3, none⟩ = some (.bool a1_3) ∧ w'.cell? ⟨gb338, 4, none⟩ = some (.slice A1_4 l1_4.length c1_4) ∧ w'.cell? ⟨gb338, 5, none⟩ = some (.slice A1_5 l1_5.length c1_5) ∧ w'.cell? ⟨gb338, 6, none⟩ = some (.slice A1_6 l1_6.length c1_6) ∧ w'.cell? ⟨gb338, 7, none⟩ = some (.slice (some ad347) l1_7.length c1_7) ∧ w'.cell? ⟨gb338, 8, none⟩ = some (.int .i64 a1_8) ∧ w'.cell? (ad346.add ((x6_3).toNat * 9)) = some (.int .i64 ((rd_T33 l0_7 x6_3).f0)) ∧ w'.cell? ⟨(ad346.add ((x6_3).toNat * 9)).block, (ad346.add ((x6_3).toNat * 9)).off + 1, none⟩ = some (.int .i64 ((rd_T33 l0_7 x6_3).f1)) ∧ w'.cell? ⟨(ad346.add ((x6_3).toNat * 9)).block, (ad346.add ((x6_3).toNat * 9)).off + 2, none⟩ = some (.bool ((rd_T33 l0_7 x6_3).f2)) ∧ w'.cell? ⟨(ad346.add ((x6_3).toNat * 9)).block, (ad346.add ((x6_3).toNat * 9)).off + 3, none⟩ = some (.bool ((rd_T33 l0_7 x6_3).f3)) ∧ w'.cell? ⟨(ad346.add ((x6_3).toNat * 9)).block, (ad346.add ((x6_3).toNat * 9)).off + 4, none⟩ = some (.slice A346_4 ((rd_T33 l0_7 x6_3).f4).length c346_4) ∧ w'.cell? ⟨(ad346.add ((x6_3).toNat * 9)).block, (ad346.add ((x6_3).toNat * 9)).off + 5, none⟩ = some (.slice A346_5 ((rd_T33 l0_7 x6_3).f5).length c346_5) ∧ w'.cell? ⟨(ad346.add ((x6_3).toNat * 9)).block, (ad346.add ((x6_3).toNat * 9)).off + 6, none⟩ = some (.slice A346_6 ((rd_T33 l0_7 x6_3).f6).length c346_6) ∧ w'.cell? ⟨(ad346.add ((x6_3).toNat * 9)).block, (ad346.add ((x6_3).toNat * 9)).off + 7, none⟩ = some (.slice A346_7 ((rd_T33 l0_7 x6_3).f7).length c346_7) ∧ w'.cell? ⟨(ad346.add ((x6_3).toNat * 9)).block, (ad346.add ((x6_3).toNat * 9)).off + 8, none⟩ = some (.int .i64 ((rd_T33 l0_7 x6_3).f8)) ∧ w'.cell? (ad347.add ((x6_3).toNat * 9)) = some (.int .i64 ((rd_T33 l1_7 x6_3).f0)) ∧ w'.cell? ⟨(ad347.add ((x6_3).toNat * 9)).block, (ad347.add ((x6_3).toNat * 9)).off + 1, none⟩ = some (.int .i64 ((rd_T33 l1_7 x6_3).f1)) ∧ w'.cell? ⟨(ad347.add ((x6_3).toNat * 9)).block, (ad347.add ((x6_3).toNat * 9)).off + 2, none⟩ = some (.bool ((rd_T33 l1_7 x6_3).f2)) ∧ w'.cell? ⟨(ad347.add ((x6_3).toNat * 9)).block, (ad347.add ((x6_3).toNat * 9)).off + 3, none⟩ = some (.bool ((rd_T33 l1_7 x6_3).f3)) ∧ w'.cell? ⟨(ad347.add ((x6_3).toNat * 9)).block, (ad347.add ((x6_3).toNat * 9)).off + 4, none⟩ = some (.slice A347_4 ((rd_T33 l1_7 x6_3).f4).length c347_4) ∧ w'.cell? ⟨(ad347.add ((x6_3).toNat * 9)).block, (ad347.add ((x6_3).toNat * 9)).off + 5, none⟩ = some (.slice A347_5 ((rd_T33 l1_7 x6_3).f5).length c347_5) ∧ w'.cell? ⟨(ad347.add ((x6_3).toNat * 9)).block, (ad347.add ((x6_3).toNat * 9)).off + 6, none⟩ = some (.slice A347_6 ((rd_T33 l1_7 x6_3).f6).length c347_6) ∧ w'.cell? ⟨(ad347.add ((x6_3).toNat * 9)).block, (ad347.add ((x6_3).toNat * 9)).off + 7, none⟩ = some (.slice A347_7 ((rd_T33 l1_7 x6_3).f7).length c347_7) ∧ w'.cell? ⟨(ad347.add ((x6_3).toNat * 9)).block, (ad347.add ((x6_3).toNat * 9)).off + 8, none⟩ = some (.int .i64 ((rd_T33 l1_7 x6_3).f8))) (ds := []) (bz 12 0) (by kernel_rfl) rfl rfl ⟨(yG BK337.out 0).trans rfl, (yG BK337.out 1).trans rfl, (yG BK337.out 2).trans rfl, (yG BK337.out 3).trans rfl, (yG BK337.out 4).trans rfl, (yG BK337.out 5).trans rfl, (yG BK337.out 6).trans rfl, (yG BK337.out 7).trans rfl, (yG BK337.out 8).trans rfl, (yG BK338.out 0).trans rfl, (yG BK338.out 1).trans rfl, (yG BK338.out 2).trans rfl, (yG BK338.out 3).trans rfl, (yG BK338.out 4).trans rfl, (yG BK338.out 5).trans rfl, (yG BK338.out 6).trans rfl, (yG BK338.out 7).trans rfl, (yG BK338.out 8).trans rfl, ((HB.out.cell (zQ w _ hw346_0)).trans hw346_0), ((HB.out.cell (zQ w _ hw346_1)).trans hw346_1), ((HB.out.cell (zQ w _ hw346_2)).trans hw346_2), ((HB.out.cell (zQ w _ hw346_3)).trans hw346_3), ((HB.out.cell (zQ w _ hw346_4)).trans hw346_4), ((HB.out.cell (zQ w _ hw346_5)).trans hw346_5), ((HB.out.cell (zQ w _ hw346_6)).trans hw346_6), ((HB.out.cell (zQ w _ hw346_7)).trans hw346_7), ((HB.out.cell (zQ w _ hw346_8)).trans hw346_8), ((HB.out.cell (zQ w _ hw347_0)).trans hw347_0), ((HB.out.cell (zQ w _ hw347_1)).trans hw347_1), ((HB.out.cell (zQ w _ hw347_2)).trans hw347_2), ((HB.out.cell (zQ w _ hw347_3)).trans hw347_3), ((HB.out.cell (zQ w _ hw347_4)).trans hw347_4), ((HB.out.cell (zQ w _ hw347_5)).trans hw347_5), ((HB.out.cell (zQ w _ hw347_6)).trans hw347_6), ((HB.out.cell (zQ w _ hw347_7)).trans hw347_7), ((HB.out.cell (zQ w _ hw347_8)).trans hw347_8)⟩ (fun hHeld => ?_); refine with_tabW spec_SameType.tab11 spec_SameType.bits11 (fun HT_ HW_ => ?_)
             generalize wr.drew = w64 at BK337 BK338 HB HR346_4 HR346_5 HR346_6 HR346_7 HR347_4 HR347_5 HR347_6 HR347_7 hx346_0 hx346_1 hx346_2 hx346_3 hx346_4 hx346_5 hx346_6 hx346_7 hx346_8 hx347_0 hx347_1 hx347_2 hx347_3 hx347_4 hx347_5 hx347_6 hx347_7 hx347_8 hHeld ⊢
             refine qA 0 116 (bz 12 1) HT_ ?_
             refine qA 2 118 (bz 12 5) HT_ ?_
             refine qA 5 121 (bz 12 37) HT_ ?_
             refine qA 7 123 (bz 12 165) HT_ ?_
             refine qC 1 117 (bz 12 167) HT_ HW_ hHeld ?_ (hy := by rintro w' ⟨s0, s1, s2, s3, s4, s5, s6, s7, s8, s9, s10, s11, s12, s13, s14, s15, s16, s17, s18, s19, s20, s21, s22, s23, s24, s25, s26, s27, s28, s29, s30, s31, s32, s33, s34, s35⟩; go_simp; with_reducible rfl)
             refine qA 3 119 (bz 12 175) HT_ ?_
             refine qC 4 120 (bz 12 191) HT_ HW_ hHeld ?_ (hy := by rintro w' ⟨s0, s1, s2, s3, s4, s5, s6, s7, s8, s9, s10, s11, s12, s13, s14, s15, s16, s17, s18, s19, s20, s21, s22, s23, s24, s25, s26, s27, s28, s29, s30, s31, s32, s33, s34, s35⟩; go_simp; with_reducible rfl)
             refine qC 6 122 (bz 12 255) HT_ HW_ hHeld ?_ (hy := by rintro w' ⟨s0, s1, s2, s3, s4, s5, s6, s7, s8, s9, s10, s11, s12, s13, s14, s15, s16, s17, s18, s19, s20, s21, s22, s23, s24, s25, s26, s27, s28, s29, s30, s31, s32, s33, s34, s35⟩; go_simp; with_reducible rfl)
             refine qA 8 124 (bz 12 511) HT_ ?_
             refine qC 9 125 (bz 12 1023) HT_ HW_ hHeld ?_ (hy := by rintro w' ⟨s0, s1, s2, s3, s4, s5, s6, s7, s8, s9, s10, s11, s12, s13, s14, s15, s16, s17, s18, s19, s20, s21, s22, s23, s24, s25, s26, s27, s28, s29, s30, s31, s32, s33, s34, s35⟩; go_simp; with_reducible rfl)
             refine one_ (i := 10) (N := some 126) (bz 12 2047) rfl rfl (one_of HT_.out (by kernel_rfl)) (by decide) (fun K hK => ?_)
             refine goes_ Try.func8 (by kernel_rfl) rfl #[.agg #[.int .i64 ((rd_T33 l0_7 x6_3).f0), .int .i64 ((rd_T33 l0_7 x6_3).f1), .bool ((rd_T33 l0_7 x6_3).f2), .bool ((rd_T33 l0_7 x6_3).f3), .slice A346_4 ((rd_T33 l0_7 x6_3).f4).length c346_4, .slice A346_5 ((rd_T33 l0_7 x6_3).f5).length c346_5, .slice A346_6 ((rd_T33 l0_7 x6_3).f6).length c346_6, .slice A346_7 ((rd_T33 l0_7 x6_3).f7).length c346_7, .int .i64 ((rd_T33 l0_7 x6_3).f8)], .agg #[.int .i64 ((rd_T33 l1_7 x6_3).f0), .int .i64 ((rd_T33 l1_7 x6_3).f1), .bool ((rd_T33 l1_7 x6_3).f2), .bool ((rd_T33 l1_7 x6_3).f3), .slice A347_4 ((rd_T33 l1_7 x6_3).f4).length c347_4, .slice A347_5 ((rd_T33 l1_7 x6_3).f5).length c347_5, .slice A347_6 ((rd_T33 l1_7 x6_3).f6).length c347_6, .slice A347_7 ((rd_T33 l1_7 x6_3).f7).length c347_7, .int .i64 ((rd_T33 l1_7 x6_3).f8)]] (by rfl) rfl rfl (by (try simp only [zK, zL, zM]); first | done | rfl | (simp only [zN, zO]; rfl)) ?_
             with_reducible refine (ih k3 (by have := HJ2.out; have := HK2.out; have := HK3.out; omega) ((rd_T33 l0_7 x6_3).f0) ((rd_T33 l0_7 x6_3).f1) ((rd_T33 l0_7 x6_3).f2) ((rd_T33 l0_7 x6_3).f3) _ _ ((rd_T33 l0_7 x6_3).f4) _ _ ((rd_T33 l0_7 x6_3).f5) _ _ ((rd_T33 l0_7 x6_3).f6) _ _ ((rd_T33 l0_7 x6_3).f7) ((rd_T33 l0_7 x6_3).f8) ((rd_T33 l1_7 x6_3).f0) ((rd_T33 l1_7 x6_3).f1) ((rd_T33 l1_7 x6_3).f2) ((rd_T33 l1_7 x6_3).f3) _ _ ((rd_T33 l1_7 x6_3).f4) _ _ ((rd_T33 l1_7 x6_3).f5) _ _ ((rd_T33 l1_7 x6_3).f6) _ _ ((rd_T33 l1_7 x6_3).f7) ((rd_T33 l1_7 x6_3).f8) true _ ?side1 ?side2 ?side3 ?side4 ?side5 ?side6 ?side7 ?side8 ?side9 ?side10 ?side11 ?side12 ?side13 ?side14 ?side15 ?side16 A60.out).mono ?_
             (case side1 => exact kV (yY HR346_4.out HB.out))
             (case side2 => exact HC346_4.out)
             (case side3 => exact kV (yY HR346_5.out HB.out))
             (case side4 => exact HC346_5.out)
             (case side5 => exact kV (yY HR346_6.out HB.out))
             (case side6 => exact HC346_6.out)
             (case side7 => exact kV (yY HR346_7.out HB.out))
             (case side8 => exact HC346_7.out)
             (case side9 => exact kV (yY HR347_4.out HB.out))
             (case side10 => exact HC347_4.out)
             (case side11 => exact kV (yY HR347_5.out HB.out))
             (case side12 => exact HC347_5.out)
             (case side13 => exact kV (yY HR347_6.out HB.out))
             (case side14 => exact HC347_6.out)
             (case side15 => exact kV (yY HR347_7.out HB.out))
             (case side16 => exact HC347_7.out)
             rintro e w65 ⟨rfl, hb⟩
             refine ⟨_, rfl, ?_⟩
             have n0_ := yD (zB (kN BK337) hb)
             have n1_ := yD (zB (kN BK338) hb)
             have n2_ := yD (zC (kB HB) hb)
             clear BK337 BK338 HB; have BK337 := n0_; have BK338 := n1_; have HB := n2_; clear n0_ n1_ n2_; (try clear hb); (try clear hb2); (try clear hk); (try clear hi)
             refine hK.out _ _ ⟨(yG BK337.out 0).trans rfl, (yG BK337.out 1).trans rfl, (yG BK337.out 2).trans rfl, (yG BK337.out 3).trans rfl, (yG BK337.out 4).trans rfl, (yG BK337.out 5).trans rfl, (yG BK337.out 6).trans rfl, (yG BK337.out 7).trans rfl, (yG BK337.out 8).trans rfl, (yG BK338.out 0).trans rfl, (yG BK338.out 1).trans rfl, (yG BK338.out 2).trans rfl, (yG BK338.out 3).trans rfl, (yG BK338.out 4).trans rfl, (yG BK338.out 5).trans rfl, (yG BK338.out 6).trans rfl, (yG BK338.out 7).trans rfl, (yG BK338.out 8).trans rfl, ((HB.out.cell (zQ w _ hw346_0)).trans hw346_0), ((HB.out.cell (zQ w _ hw346_1)).trans hw346_1), ((HB.out.cell (zQ w _ hw346_2)).trans hw346_2), ((HB.out.cell (zQ w _ hw346_3)).trans hw346_3), ((HB.out.cell (zQ w _ hw346_4)).trans hw346_4), ((HB.out.cell (zQ w _ hw346_5)).trans hw346_5), ((HB.out.cell (zQ w _ hw346_6)).trans hw346_6), ((HB.out.cell (zQ w _ hw346_7)).trans hw346_7), ((HB.out.cell (zQ w _ hw346_8)).trans hw346_8), ((HB.out.cell (zQ w _ hw347_0)).trans hw347_0), ((HB.out.cell (zQ w _ hw347_1)).trans hw347_1), ((HB.out.cell (zQ w _ hw347_2)).trans hw347_2), ((HB.out.cell (zQ w _ hw347_3)).trans hw347_3), ((HB.out.cell (zQ w _ hw347_4)).trans hw347_4), ((HB.out.cell (zQ w _ hw347_5)).trans hw347_5), ((HB.out.cell (zQ w _ hw347_6)).trans hw347_6), ((HB.out.cell (zQ w _ hw347_7)).trans hw347_7), ((HB.out.cell (zQ w _ hw347_8)).trans hw347_8)⟩ (fun hHeld => ?_)
             clear hK K
             refine norm_ (a' := ?_) ?_ ?_
             rotate_left
             · show Act.put _ (some 126) _ = _
               simp only [Act.put, zH, zI, zJ, i64_w, i32_w]
               rfl
             refine qA 11 127 (bz 12 4095) HT_ ?_
             refine done_ (done_of HT_.out (by kernel_rfl)) ?_
             try go_wp2
             go_roundg k3
             case measure => have := HJ2.out; have := HK2.out; have := HK3.out; omega
             case rel => exact ⟨(wrap64 (x6_3 + 1)), (by first | rfl | (simp; done) | (simp [*]; done)), H', ⟨by have := HJ2.out; have := HK2.out; have := HK3.out; omega⟩, ⟨kM BK337⟩, ⟨kM BK338⟩, ⟨kR0 HB⟩⟩
            ·
             replace c61 := Bool.eq_false_iff.mpr c61
             subst c61
             replace H : (some false) = some r := (by rw [if_neg (show ¬ (false = true) by decide)] at H; exact H); obtain rfl := Option.some.inj H; have hnb66 := NB337_338.out; have hnc66 := NB338_337.out
             obtain ⟨hcz67_0, hcz67_1, hcz67_2, hcz67_3, hcz67_4, hcz67_5, hcz67_6, hcz67_7, hcz67_8⟩ := cz9 BK337.out
             obtain ⟨hfz67_0, hfz67_1, hfz67_2, hfz67_3, hfz67_4, hfz67_5, hfz67_6, hfz67_7, hfz67_8⟩ := fz9 BK337.out
             try go_wp2
             have n0_ := yD (yO BK337.out)
             have n1_ := yD (yO BK338.out)
             have n2_ := yD (yP HB.out)
             clear BK337 BK338 HB; have BK337 := n0_; have BK338 := n1_; have HB := n2_; clear n0_ n1_ n2_
             have p346 : 0 ≤ (x6_3 : Int) := zP (by assumption)
             have q346 : x6_3 < (l0_7.length : Int) := zP (by assumption)
             obtain ⟨ad346, A346_4, c346_4, A346_5, c346_5, A346_6, c346_6, A346_7, c346_7, e346, hx346_0, hx346_1, hx346_2, hx346_3, hx346_4, hx346_5, hx346_6, hx346_7, hx346_8, hl346_4, hi346_4, hl346_5, hi346_5, hl346_6, hi346_6, hl346_7, hi346_7⟩ := at_T33 HR0_7.out x6_3 p346 q346
             have hw346_8 := hx346_8; have hw346_7 := hx346_7; have hw346_6 := hx346_6; have hw346_5 := hx346_5; have hw346_4 := hx346_4; have hw346_3 := hx346_3; have hw346_2 := hx346_2; have hw346_1 := hx346_1; have hw346_0 := hx346_0; cases e346
             replace hx346_0 := kCx3_ HB hx346_0
             replace hx346_1 := kCx3_ HB hx346_1
             replace hx346_2 := kCx3_ HB hx346_2
             replace hx346_3 := kCx3_ HB hx346_3
             replace hx346_4 := kCx3_ HB hx346_4
             replace hx346_5 := kCx3_ HB hx346_5
             replace hx346_6 := kCx3_ HB hx346_6
             replace hx346_7 := kCx3_ HB hx346_7
             replace hx346_8 := kCx3_ HB hx346_8
             have HR346_4 := yD hi346_4
             have HC346_4 := yD hl346_4
             clear hi346_4 hl346_4
             have HR346_5 := yD hi346_5
             have HC346_5 := yD hl346_5
             clear hi346_5 hl346_5
             have HR346_6 := yD hi346_6
             have HC346_6 := yD hl346_6
             clear hi346_6 hl346_6
             have HR346_7 := yD hi346_7
             have HC346_7 := yD hl346_7
             clear hi346_7 hl346_7; replace p346 := eq_true p346; replace q346 := eq_true q346
             have p347 : 0 ≤ (x6_3 : Int) := zP (by assumption)
             have q347 : x6_3 < (l1_7.length : Int) := zP (by assumption)
             obtain ⟨ad347, A347_4, c347_4, A347_5, c347_5, A347_6, c347_6, A347_7, c347_7, e347, hx347_0, hx347_1, hx347_2, hx347_3, hx347_4, hx347_5, hx347_6, hx347_7, hx347_8, hl347_4, hi347_4, hl347_5, hi347_5, hl347_6, hi347_6, hl347_7, hi347_7⟩ := at_T33 HR1_7.out x6_3 p347 q347
             have hw347_8 := hx347_8; have hw347_7 := hx347_7; have hw347_6 := hx347_6; have hw347_5 := hx347_5; have hw347_4 := hx347_4; have hw347_3 := hx347_3; have hw347_2 := hx347_2; have hw347_1 := hx347_1; have hw347_0 := hx347_0; cases e347
             replace hx347_0 := kCx3_ HB hx347_0
             replace hx347_1 := kCx3_ HB hx347_1
             replace hx347_2 := kCx3_ HB hx347_2
             replace hx347_3 := kCx3_ HB hx347_3
             replace hx347_4 := kCx3_ HB hx347_4
             replace hx347_5 := kCx3_ HB hx347_5
             replace hx347_6 := kCx3_ HB hx347_6
             replace hx347_7 := kCx3_ HB hx347_7
             replace hx347_8 := kCx3_ HB hx347_8
             have HR347_4 := yD hi347_4
             have HC347_4 := yD hl347_4
             clear hi347_4 hl347_4
             have HR347_5 := yD hi347_5
             have HC347_5 := yD hl347_5
             clear hi347_5 hl347_5
             have HR347_6 := yD hi347_6
             have HC347_6 := yD hl347_6
             clear hi347_6 hl347_6
             have HR347_7 := yD hi347_7
             have HC347_7 := yD hl347_7
             clear hi347_7 hl347_7; replace p347 := eq_true p347; replace q347 := eq_true q347
             refine start_ (n := 12) (S := fun w' => w'.cell? ⟨gb337, 0, none⟩ = some (.int .i64 a0_0) ∧ w'.cell? ⟨gb337, 1, none⟩ = some (.int .i64 a0_1) ∧ w'.cell? ⟨gb337, 2, none⟩ = some (.bool a0_2) ∧ w'.cell? ⟨gb337, 3, none⟩ = some (.bool a0_3) ∧ w'.cell? ⟨gb337, 4, none⟩ = some (.slice A0_4 l0_4.length c0_4) ∧ w'.cell? ⟨gb337, 5, none⟩ = some (.slice A0_5 l0_5.length c0_5) ∧ w'.cell? ⟨gb337, 6, none⟩ = some (.slice A0_6 l0_6.length c0_6) ∧ w'.cell? ⟨gb337, 7, none⟩ = some (.slice (some ad346) l0_7.length c0_7) ∧ w'.cell? ⟨gb337, 8, none⟩ = some (.int .i64 a0_8) ∧ w'.cell? ⟨gb338, 0, none⟩ = some (.int .i64 a1_0) ∧ w'.cell? ⟨gb338, 1, none⟩ = some (.int .i64 a1_1) ∧ w'.cell? ⟨gb338, 2, none⟩ = some (.bool a1_2) ∧ w'.cell? ⟨gb338, 3, none⟩ = some (.bool a1_3) ∧ w'.cell? ⟨gb338, 4, none⟩ = some (.slice A1_4 l1_4.length c1_4) ∧ w'.cell? ⟨gb338, 5, none⟩ = some (.slice A1_5 l1_5.length c1_5) ∧ w'.cell? ⟨gb338, 6, none⟩ = some (.slice A1_6 l1_6.length c1_6) ∧ w'.cell? ⟨gb338, 7, none⟩ = some (.slice (some ad347) l1_7.length c1_7) ∧ w'.cell? ⟨gb338, 8, none⟩ = some (.int .i64 a1_8) ∧ w'.cell? (ad346.add ((x6_3).toNat * 9)) = some (.int .i64 ((rd_T33 l0_7 x6_3).f0)) ∧ w'.cell? ⟨(ad346.add ((x6_3).toNat * 9)).block, (ad346.add ((x6_3).toNat * 9)).off + 1, none⟩ = some (.int .i64 ((rd_T33 l0_7 x6_3).f1)) ∧ w'.cell? ⟨(ad346.add ((x6_3).toNat * 9)).block, (ad346.add ((x6_3).toNat * 9)).off + 2, none⟩ = some (.bool ((rd_T33 l0_7 x6_3).f2)) ∧ w'.cell? ⟨(ad346.add ((x6_3).toNat * 9)).block, (ad346.add ((x6_3).toNat * 9)).off + 3, none⟩ = some (.bool ((rd_T33 l0_7 x6_3).f3)) ∧ w'.cell? ⟨(ad346.add ((x6_3).toNat * 9)).block, (ad346.add ((x6_3).toNat * 9)).off + 4, none⟩ = some (.slice A346_4 ((rd_T33 l0_7 x6_3).f4).length c346_4) ∧ w'.cell? ⟨(ad346.add ((x6_3).toNat * 9)).block, (ad346.add ((x6_3).toNat * 9)).off + 5, none⟩ = some (.slice A346_5 ((rd_T33 l0_7 x6_3).f5).length c346_5) ∧ w'.cell? ⟨(ad346.add ((x6_3).toNat * 9)).block, (ad346.add ((x6_3).toNat * 9)).off + 6, none⟩ = some (.slice A346_6 ((rd_T33 l0_7 x6_3).f6).length c346_6) ∧ w'.cell? ⟨(ad346.add ((x6_3).toNat * 9)).block, (ad346.add ((x6_3).toNat * 9)).off + 7, none⟩ = some (.slice A346_7 ((rd_T33 l0_7 x6_3).f7).length c346_7) ∧ w'.cell? ⟨(ad346.add ((x6_3).toNat * 9)).block, (ad346.add ((x6_3).toNat * 9)).off + 8, none⟩ = some (.int .i64 ((rd_T33 l0_7 x6_3).f8)) ∧ w'.cell? (ad347.add ((x6_3).toNat * 9)) = some (.int .i64 ((rd_T33 l1_7 x6_3).f0)) ∧ w'.cell? ⟨(ad347.add ((x6_3).toNat * 9)).block, (ad347.add ((x6_3).toNat * 9)).off + 1, none⟩ = some (.int .i64 ((rd_T33 l1_7 x6_3).f1)) ∧ w'.cell? ⟨(ad347.add ((x6_3).toNat * 9)).block, (ad347.add ((x6_3).toNat * 9)).off + 2, none⟩ = some (.bool ((rd_T33 l1_7 x6_3).f2)) ∧ w'.cell? ⟨(ad347.add ((x6_3).toNat * 9)).block, (ad347.add ((x6_3).toNat * 9)).off + 3, none⟩ = some (.bool ((rd_T33 l1_7 x6_3).f3)) ∧ w'.cell? ⟨(ad347.add ((x6_3).toNat * 9)).block, (ad347.add ((x6_3).toNat * 9)).off + 4, none⟩ = some (.slice A347_4 ((rd_T33 l1_7 x6_3).f4).length c347_4) ∧ w'.cell? ⟨(ad347.add ((x6_3).toNat * 9)).block, (ad347.add ((x6_3).toNat * 9)).off + 5, none⟩ = some (.slice A347_5 ((rd_T33 l1_7 x6_3).f5).length c347_5) ∧ w'.cell? ⟨(ad347.add ((x6_3).toNat * 9)).block, (ad347.add ((x6_3).toNat * 9)).off + 6, none⟩ = some (.slice A347_6 ((rd_T33 l1_7 x6_3).f6).length c347_6) ∧ w'.cell? ⟨(ad347.add ((x6_3).toNat * 9)).block, (ad347.add ((x6_3).toNat * 9)).off + 7, none⟩ = some (.slice A347_7 ((rd_T33 l1_7 x6_3).f7).length c347_7) ∧ w'.cell? ⟨(ad347.add ((x6_3).toNat * 9)).block, (ad347.add ((x6_3).toNat * 9)).off + 8, none⟩ = some (.int .i64 ((rd_T33 l1_7 x6_3).f8))) (ds := []) (bz 12 0) (by kernel_rfl) rfl rfl ⟨(yG BK337.out 0).trans rfl, (yG BK337.out 1).trans rfl, (yG BK337.out 2).trans rfl, (yG BK337.out 3).trans rfl, (yG BK337.out 4).trans rfl, (yG BK337.out 5).trans rfl, (yG BK337.out 6).trans rfl, (yG BK337.out 7).trans rfl, (yG BK337.out 8).trans rfl, (yG BK338.out 0).trans rfl, (yG BK338.out 1).trans rfl, (yG BK338.out 2).trans rfl, (yG BK338.out 3).trans rfl, (yG BK338.out 4).trans rfl, (yG BK338.out 5).trans rfl, (yG BK338.out 6).trans rfl, (yG BK338.out 7).trans rfl, (yG BK338.out 8).trans rfl, ((HB.out.cell (zQ w _ hw346_0)).trans hw346_0), ((HB.out.cell (zQ w _ hw346_1)).trans hw346_1), ((HB.out.cell (zQ w _ hw346_2)).trans hw346_2), ((HB.out.cell (zQ w _ hw346_3)).trans hw346_3), ((HB.out.cell (zQ w _ hw346_4)).trans hw346_4), ((HB.out.cell (zQ w _ hw346_5)).trans hw346_5), ((HB.out.cell (zQ w _ hw346_6)).trans hw346_6), ((HB.out.cell (zQ w _ hw346_7)).trans hw346_7), ((HB.out.cell (zQ w _ hw346_8)).trans hw346_8), ((HB.out.cell (zQ w _ hw347_0)).trans hw347_0), ((HB.out.cell (zQ w _ hw347_1)).trans hw347_1), ((HB.out.cell (zQ w _ hw347_2)).trans hw347_2), ((HB.out.cell (zQ w _ hw347_3)).trans hw347_3), ((HB.out.cell (zQ w _ hw347_4)).trans hw347_4), ((HB.out.cell (zQ w _ hw347_5)).trans hw347_5), ((HB.out.cell (zQ w _ hw347_6)).trans hw347_6), ((HB.out.cell (zQ w _ hw347_7)).trans hw347_7), ((HB.out.cell (zQ w _ hw347_8)).trans hw347_8)⟩ (fun hHeld => ?_); refine with_tabW spec_SameType.tab11 spec_SameType.bits11 (fun HT_ HW_ => ?_)
             generalize wr.drew = w68 at BK337 BK338 HB HR346_4 HR346_5 HR346_6 HR346_7 HR347_4 HR347_5 HR347_6 HR347_7 hx346_0 hx346_1 hx346_2 hx346_3 hx346_4 hx346_5 hx346_6 hx346_7 hx346_8 hx347_0 hx347_1 hx347_2 hx347_3 hx347_4 hx347_5 hx347_6 hx347_7 hx347_8 hHeld ⊢
             refine qA 0 116 (bz 12 1) HT_ ?_
             refine qA 2 118 (bz 12 5) HT_ ?_
             refine qA 5 121 (bz 12 37) HT_ ?_
             refine qA 7 123 (bz 12 165) HT_ ?_
             refine qC 1 117 (bz 12 167) HT_ HW_ hHeld ?_ (hy := by rintro w' ⟨s0, s1, s2, s3, s4, s5, s6, s7, s8, s9, s10, s11, s12, s13, s14, s15, s16, s17, s18, s19, s20, s21, s22, s23, s24, s25, s26, s27, s28, s29, s30, s31, s32, s33, s34, s35⟩; go_simp; with_reducible rfl)
             refine qA 3 119 (bz 12 175) HT_ ?_
             refine qC 4 120 (bz 12 191) HT_ HW_ hHeld ?_ (hy := by rintro w' ⟨s0, s1, s2, s3, s4, s5, s6, s7, s8, s9, s10, s11, s12, s13, s14, s15, s16, s17, s18, s19, s20, s21, s22, s23, s24, s25, s26, s27, s28, s29, s30, s31, s32, s33, s34, s35⟩; go_simp; with_reducible rfl)
             refine qC 6 122 (bz 12 255) HT_ HW_ hHeld ?_ (hy := by rintro w' ⟨s0, s1, s2, s3, s4, s5, s6, s7, s8, s9, s10, s11, s12, s13, s14, s15, s16, s17, s18, s19, s20, s21, s22, s23, s24, s25, s26, s27, s28, s29, s30, s31, s32, s33, s34, s35⟩; go_simp; with_reducible rfl)
             refine qA 8 124 (bz 12 511) HT_ ?_
             refine qC 9 125 (bz 12 1023) HT_ HW_ hHeld ?_ (hy := by rintro w' ⟨s0, s1, s2, s3, s4, s5, s6, s7, s8, s9, s10, s11, s12, s13, s14, s15, s16, s17, s18, s19, s20, s21, s22, s23, s24, s25, s26, s27, s28, s29, s30, s31, s32, s33, s34, s35⟩; go_simp; with_reducible rfl)
             refine one_ (i := 10) (N := some 126) (bz 12 2047) rfl rfl (one_of HT_.out (by kernel_rfl)) (by decide) (fun K hK => ?_)
             refine goes_ Try.func8 (by kernel_rfl) rfl #[.agg #[.int .i64 ((rd_T33 l0_7 x6_3).f0), .int .i64 ((rd_T33 l0_7 x6_3).f1), .bool ((rd_T33 l0_7 x6_3).f2), .bool ((rd_T33 l0_7 x6_3).f3), .slice A346_4 ((rd_T33 l0_7 x6_3).f4).length c346_4, .slice A346_5 ((rd_T33 l0_7 x6_3).f5).length c346_5, .slice A346_6 ((rd_T33 l0_7 x6_3).f6).length c346_6, .slice A346_7 ((rd_T33 l0_7 x6_3).f7).length c346_7, .int .i64 ((rd_T33 l0_7 x6_3).f8)], .agg #[.int .i64 ((rd_T33 l1_7 x6_3).f0), .int .i64 ((rd_T33 l1_7 x6_3).f1), .bool ((rd_T33 l1_7 x6_3).f2), .bool ((rd_T33 l1_7 x6_3).f3), .slice A347_4 ((rd_T33 l1_7 x6_3).f4).length c347_4, .slice A347_5 ((rd_T33 l1_7 x6_3).f5).length c347_5, .slice A347_6 ((rd_T33 l1_7 x6_3).f6).length c347_6, .slice A347_7 ((rd_T33 l1_7 x6_3).f7).length c347_7, .int .i64 ((rd_T33 l1_7 x6_3).f8)]] (by rfl) rfl rfl (by (try simp only [zK, zL, zM]); first | done | rfl | (simp only [zN, zO]; rfl)) ?_
             with_reducible refine (ih k3 (by have := HJ2.out; have := HK2.out; have := HK3.out; omega) ((rd_T33 l0_7 x6_3).f0) ((rd_T33 l0_7 x6_3).f1) ((rd_T33 l0_7 x6_3).f2) ((rd_T33 l0_7 x6_3).f3) _ _ ((rd_T33 l0_7 x6_3).f4) _ _ ((rd_T33 l0_7 x6_3).f5) _ _ ((rd_T33 l0_7 x6_3).f6) _ _ ((rd_T33 l0_7 x6_3).f7) ((rd_T33 l0_7 x6_3).f8) ((rd_T33 l1_7 x6_3).f0) ((rd_T33 l1_7 x6_3).f1) ((rd_T33 l1_7 x6_3).f2) ((rd_T33 l1_7 x6_3).f3) _ _ ((rd_T33 l1_7 x6_3).f4) _ _ ((rd_T33 l1_7 x6_3).f5) _ _ ((rd_T33 l1_7 x6_3).f6) _ _ ((rd_T33 l1_7 x6_3).f7) ((rd_T33 l1_7 x6_3).f8) false _ ?side1 ?side2 ?side3 ?side4 ?side5 ?side6 ?side7 ?side8 ?side9 ?side10 ?side11 ?side12 ?side13 ?side14 ?side15 ?side16 A60.out).mono ?_
             (case side1 => exact kV (yY HR346_4.out HB.out))
             (case side2 => exact HC346_4.out)
             (case side3 => exact kV (yY HR346_5.out HB.out))
             (case side4 => exact HC346_5.out)
             (case side5 => exact kV (yY HR346_6.out HB.out))
             (case side6 => exact HC346_6.out)
             (case side7 => exact kV (yY HR346_7.out HB.out))
             (case side8 => exact HC346_7.out)
             (case side9 => exact kV (yY HR347_4.out HB.out))
             (case side10 => exact HC347_4.out)
             (case side11 => exact kV (yY HR347_5.out HB.out))
             (case side12 => exact HC347_5.out)
             (case side13 => exact kV (yY HR347_6.out HB.out))
             (case side14 => exact HC347_6.out)
             (case side15 => exact kV (yY HR347_7.out HB.out))
             (case side16 => exact HC347_7.out)
             rintro e w69 ⟨rfl, hb⟩
             refine ⟨_, rfl, ?_⟩
             have n0_ := yD (zB (kN BK337) hb)
             have n1_ := yD (zB (kN BK338) hb)
             have n2_ := yD (zC (kB HB) hb)
             clear BK337 BK338 HB; have BK337 := n0_; have BK338 := n1_; have HB := n2_; clear n0_ n1_ n2_; (try clear hb); (try clear hb2); (try clear hk); (try clear hi)
             refine hK.out _ _ ⟨(yG BK337.out 0).trans rfl, (yG BK337.out 1).trans rfl, (yG BK337.out 2).trans rfl, (yG BK337.out 3).trans rfl, (yG BK337.out 4).trans rfl, (yG BK337.out 5).trans rfl, (yG BK337.out 6).trans rfl, (yG BK337.out 7).trans rfl, (yG BK337.out 8).trans rfl, (yG BK338.out 0).trans rfl, (yG BK338.out 1).trans rfl, (yG BK338.out 2).trans rfl, (yG BK338.out 3).trans rfl, (yG BK338.out 4).trans rfl, (yG BK338.out 5).trans rfl, (yG BK338.out 6).trans rfl, (yG BK338.out 7).trans rfl, (yG BK338.out 8).trans rfl, ((HB.out.cell (zQ w _ hw346_0)).trans hw346_0), ((HB.out.cell (zQ w _ hw346_1)).trans hw346_1), ((HB.out.cell (zQ w _ hw346_2)).trans hw346_2), ((HB.out.cell (zQ w _ hw346_3)).trans hw346_3), ((HB.out.cell (zQ w _ hw346_4)).trans hw346_4), ((HB.out.cell (zQ w _ hw346_5)).trans hw346_5), ((HB.out.cell (zQ w _ hw346_6)).trans hw346_6), ((HB.out.cell (zQ w _ hw346_7)).trans hw346_7), ((HB.out.cell (zQ w _ hw346_8)).trans hw346_8), ((HB.out.cell (zQ w _ hw347_0)).trans hw347_0), ((HB.out.cell (zQ w _ hw347_1)).trans hw347_1), ((HB.out.cell (zQ w _ hw347_2)).trans hw347_2), ((HB.out.cell (zQ w _ hw347_3)).trans hw347_3), ((HB.out.cell (zQ w _ hw347_4)).trans hw347_4), ((HB.out.cell (zQ w _ hw347_5)).trans hw347_5), ((HB.out.cell (zQ w _ hw347_6)).trans hw347_6), ((HB.out.cell (zQ w _ hw347_7)).trans hw347_7), ((HB.out.cell (zQ w _ hw347_8)).trans hw347_8)⟩ (fun hHeld => ?_)
             clear hK K
             refine norm_ (a' := ?_) ?_ ?_
             rotate_left
             · show Act.put _ (some 126) _ = _
               simp only [Act.put, zH, zI, zJ, i64_w, i32_w]
               rfl
             refine qA 11 127 (bz 12 4095) HT_ ?_
             refine done_ (done_of HT_.out (by kernel_rfl)) ?_
             try go_wp2
             go_ret
             exact ⟨by first | rfl | (simp <;> rfl) | (simp [*] <;> rfl), kR0 HB⟩
           · rw [if_neg c59] at H
             exact absurd H (by simp)
          · rw [if_neg c58] at H
            exact absurd H (by simp)
         ·
          rw [if_neg c57] at H
          have c57b0 : decide (x6_3 < (l0_7.length : Int)) = false := zS c57; clear c57
          obtain ⟨t349, A700, H⟩ := zW_ H
          replace H : (if t349 = true then ((spec_l02Ints.f k3 l0_5 l1_5).bind fun t350 => (some t350)) else (some false)) = some r := H
          have A70 := yD A700
          clear A700
          by_cases c71 : t349 = true
          · subst c71
            replace H : ((spec_l02Ints.f k3 l0_5 l1_5).bind fun t350 => (some t350)) = some r := (by rw [if_pos rfl] at H; exact H)
            obtain ⟨t350, A720, H⟩ := zW_ H
            replace H : (some t350) = some r := H
            have A72 := yD A720
            clear A720; obtain rfl := Option.some.inj H; have hnb73 := NB337_338.out; have hnc73 := NB338_337.out
            obtain ⟨hcz74_0, hcz74_1, hcz74_2, hcz74_3, hcz74_4, hcz74_5, hcz74_6, hcz74_7, hcz74_8⟩ := cz9 BK337.out
            obtain ⟨hfz74_0, hfz74_1, hfz74_2, hfz74_3, hfz74_4, hfz74_5, hfz74_6, hfz74_7, hfz74_8⟩ := fz9 BK337.out
            obtain ⟨hcz75_0, hcz75_1, hcz75_2, hcz75_3, hcz75_4, hcz75_5, hcz75_6, hcz75_7, hcz75_8⟩ := cz9 BK338.out
            obtain ⟨hfz75_0, hfz75_1, hfz75_2, hfz75_3, hfz75_4, hfz75_5, hfz75_6, hfz75_7, hfz75_8⟩ := fz9 BK338.out
            go_wp2_with (first | ((with_reducible refine gate_callee (f := 33) rfl ?_); refine gL 132 Try.func33 #[.slice A0_4 l0_4.length c0_4, .slice A1_4 l1_4.length c1_4] ?_; (with_reducible refine (spec_l02Texts.calls k3 _ _ l0_4 _ _ l1_4 true _ ?side1 ?side2 ?side3 ?side4 A70.out).mono ?_); (case side1 => exact kV (yY HR0_4.out HB.out)); (case side2 => exact HC0_4.out); (case side3 => exact kV (yY HR1_4.out HB.out)); (case side4 => exact HC1_4.out); rintro e w' ⟨rfl, ⟨nd, rfl⟩⟩; refine ⟨_, rfl, ?_⟩) | (go_at_call 34; (with_reducible refine (spec_l02Ints.calls k3 _ _ l0_5 _ _ l1_5 t350 _ ?side1 ?side2 ?side3 ?side4 A72.out).mono ?_); (case side1 => repeat (first | exact (yY HR0_5.out (kB HB)) | (with_reducible first | refine yV ?_ _ | refine yW ?_ _ | refine yX ?_))); (case side2 => exact HC0_5.out); (case side3 => repeat (first | exact (yY HR1_5.out (kB HB)) | (with_reducible first | refine yV ?_ _ | refine yW ?_ _ | refine yX ?_))); (case side4 => exact HC1_5.out); rintro e w' ⟨rfl, ⟨nd, rfl⟩⟩))
            go_ret
            exact ⟨by first | rfl | (simp <;> rfl) | (simp [*] <;> rfl), kR0 HB⟩
          · replace c71 := Bool.eq_false_iff.mpr c71
            subst c71
            replace H : (some false) = some r := (by rw [if_neg (show ¬ (false = true) by decide)] at H; exact H); obtain rfl := Option.some.inj H; have hnb76 := NB337_338.out; have hnc76 := NB338_337.out
            obtain ⟨hcz77_0, hcz77_1, hcz77_2, hcz77_3, hcz77_4, hcz77_5, hcz77_6, hcz77_7, hcz77_8⟩ := cz9 BK337.out
            obtain ⟨hfz77_0, hfz77_1, hfz77_2, hfz77_3, hfz77_4, hfz77_5, hfz77_6, hfz77_7, hfz77_8⟩ := fz9 BK337.out
            obtain ⟨hcz78_0, hcz78_1, hcz78_2, hcz78_3, hcz78_4, hcz78_5, hcz78_6, hcz78_7, hcz78_8⟩ := cz9 BK338.out
            obtain ⟨hfz78_0, hfz78_1, hfz78_2, hfz78_3, hfz78_4, hfz78_5, hfz78_6, hfz78_7, hfz78_8⟩ := fz9 BK338.out
            go_wp2_with (first | ((with_reducible refine gate_callee (f := 33) rfl ?_); refine gL 132 Try.func33 #[.slice A0_4 l0_4.length c0_4, .slice A1_4 l1_4.length c1_4] ?_; (with_reducible refine (spec_l02Texts.calls k3 _ _ l0_4 _ _ l1_4 false _ ?side1 ?side2 ?side3 ?side4 A70.out).mono ?_); (case side1 => exact kV (yY HR0_4.out HB.out)); (case side2 => exact HC0_4.out); (case side3 => exact kV (yY HR1_4.out HB.out)); (case side4 => exact HC1_4.out); rintro e w' ⟨rfl, ⟨nd, rfl⟩⟩; refine ⟨_, rfl, ?_⟩))
            go_ret
            exact ⟨by first | rfl | (simp <;> rfl) | (simp [*] <;> rfl), kR0 HB⟩

end Go.Proofs.Ytfblodggimjoaaa.PFnExactSameArray
