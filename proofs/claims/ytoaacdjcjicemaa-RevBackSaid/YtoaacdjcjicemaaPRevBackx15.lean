-- written by a program of this session (the print, turned)
import Derived.Test.YtoaacdjcjicemaaPRevBackx0
import Derived.Test.YtoaacdjcjicemaaPRevBackx4
import Derived.Test.YtoaacdjcjicemaaPRevBackx10
import Derived.Test.YtoaacdjcjicemaaPRevBackx13
import Derived.Test.YtoaacdjcjicemaaPRevBackx14
import Derived.Test.YtoaacdjcjicemaaWAl
namespace Go.Proofs.Ytoaacdjcjicemaa.PRevBack
open Go.RowKit Go.Proofs.YtoaacdjcjicemaaW.PrintWords Go.Proofs.YtoaacdjcjicemaaW.PrintLast Go.Proofs.YtoaacdjcjicemaaW.PrintMore
attribute [local go_sem] cell_self cell_there leq_str geq_str gtr_str max2_str max2_int min2_int max_two min_two max_three min_three max_four min_four   -- for this text's walks alone
set_option linter.unusedVariables false
set_option linter.unusedSimpArgs false
abbrev q15_0 : Array Bool := #[false, false, false, false, false, false, false, false, false, false, false, false, false, false, false, false, false, false, false, false]
abbrev q15_1 : Array Bool := #[true, false, false, false, false, false, false, false, false, false, false, false, false, false, false, false, false, false, false, false]
abbrev q15_2 : Array Bool := #[true, false, true, false, false, false, false, false, false, false, false, false, false, false, false, false, false, false, false, false]
abbrev q15_3 : Array Bool := #[true, false, true, false, false, true, false, false, false, false, false, false, false, false, false, false, false, false, false, false]
abbrev q15_4 : Array Bool := #[true, false, true, false, false, true, false, true, false, false, false, false, false, false, false, false, false, false, false, false]
abbrev q15_5 : Array Bool := #[true, true, true, false, false, true, false, true, false, false, false, false, false, false, false, false, false, false, false, false]
abbrev q15_6 : Array Bool := #[true, true, true, true, false, true, false, true, false, false, false, false, false, false, false, false, false, false, false, false]
abbrev q15_7 : Array Bool := #[true, true, true, true, true, true, false, true, false, false, false, false, false, false, false, false, false, false, false, false]
abbrev q15_8 : Array Bool := #[true, true, true, true, true, true, true, true, false, false, false, false, false, false, false, false, false, false, false, false]
abbrev q15_9 : Array Bool := #[true, true, true, true, true, true, true, true, true, false, false, false, false, false, false, false, false, false, false, false]
abbrev q15_10 : Array Bool := #[true, true, true, true, true, true, true, true, true, true, false, false, false, false, false, false, false, false, false, false]
abbrev q15_11 : Array Bool := #[true, true, true, true, true, true, true, true, true, true, true, false, false, false, false, false, false, false, false, false]
abbrev q15_12 : Array Bool := #[true, true, true, true, true, true, true, true, true, true, true, true, false, false, false, false, false, false, false, false]
abbrev q15_13 : Array Bool := #[true, true, true, true, true, true, true, true, true, true, true, true, false, true, false, false, false, false, false, false]
abbrev q15_14 : Array Bool := #[true, true, true, true, true, true, true, true, true, true, true, true, true, true, false, false, false, false, false, false]
abbrev q15_15 : Array Bool := #[true, true, true, true, true, true, true, true, true, true, true, true, true, true, true, false, false, false, false, false]
abbrev q15_16 : Array Bool := #[true, true, true, true, true, true, true, true, true, true, true, true, true, true, true, true, false, false, false, false]
abbrev q15_17 : Array Bool := #[true, true, true, true, true, true, true, true, true, true, true, true, true, true, true, true, true, false, false, false]
abbrev q15_18 : Array Bool := #[true, true, true, true, true, true, true, true, true, true, true, true, true, true, true, true, true, true, false, false]
abbrev q15_19 : Array Bool := #[true, true, true, true, true, true, true, true, true, true, true, true, true, true, true, true, true, true, true, false]
abbrev q15_20 : Array Bool := #[true, true, true, true, true, true, true, true, true, true, true, true, true, true, true, true, true, true, true, true]
/-! ### rev_Join: function 49 -/
def rev_Join.j0 : Nat → Bool → Int → Int → ByteArray → ByteArray → Bool → Bool → List ByteArray → List ByteArray → List Bool → List Int → Int → Int → ByteArray → ByteArray → Bool → Bool → List ByteArray → List ByteArray → List Bool → List Int → Option (Int × Int × ByteArray × ByteArray × Bool × Bool × List ByteArray × List ByteArray × List Bool × List Int × Bool)
 | 0, _, _, _, _, _, _, _, _, _, _, _, _, _, _, _, _, _, _, _, _, _ => none
 | k + 1, x32, x383000, x383001, x383002, x383003, x383004, x383005, x383006, x383007, x383008, x383009, x384000, x384001, x384002, x384003, x384004, x384005, x384006, x384007, x384008, x384009 => if x32 = true then (some (0, 0, (⟨#[]⟩ : ByteArray), (⟨#[]⟩ : ByteArray), false, false, ([] : List ByteArray), ([] : List ByteArray), ([] : List Bool), ([] : List Int), false)) else ((rev_live.f k x383000 x383001 x383002 x383003 x383004 x383005 x383006 x383007 x383008 x383009).bind fun t385 => ((rev_live.f k x384000 x384001 x384002 x384003 x384004 x384005 x384006 x384007 x384008 x384009).bind fun t388 => ((api_Entry_82.f (([t385, t388] : List (List (S114))))).bind fun t394 => ((rev_laid.f k (mx x383000 x384000) (mx x383001 x384001) x383002 x384003 x384004 t394).bind fun bt397 => (some (bt397.1, bt397.2.1, bt397.2.2.1, bt397.2.2.2.1, bt397.2.2.2.2.1, bt397.2.2.2.2.2.1, bt397.2.2.2.2.2.2.1, bt397.2.2.2.2.2.2.2.1, bt397.2.2.2.2.2.2.2.2.1, bt397.2.2.2.2.2.2.2.2.2, true))))))
def rev_Join.f (k : Nat) (a0_0 : Int) (a0_1 : Int) (a0_2 : ByteArray) (a0_3 : ByteArray) (a0_4 : Bool) (a0_5 : Bool) (l0_6 : List ByteArray) (l0_7 : List ByteArray) (l0_8 : List Bool) (l0_9 : List Int) (a1_0 : Int) (a1_1 : Int) (a1_2 : ByteArray) (a1_3 : ByteArray) (a1_4 : Bool) (a1_5 : Bool) (l1_6 : List ByteArray) (l1_7 : List ByteArray) (l1_8 : List Bool) (l1_9 : List Int) : Option (Int × Int × ByteArray × ByteArray × Bool × Bool × List ByteArray × List ByteArray × List Bool × List Int × Bool) := if a0_5 = true then (rev_Join.j0 k true a0_0 a0_1 a0_2 a0_3 a0_4 a0_5 l0_6 l0_7 l0_8 l0_9 a1_0 a1_1 a1_2 a1_3 a1_4 a1_5 l1_6 l1_7 l1_8 l1_9) else (if a1_5 = true then (rev_Join.j0 k true a0_0 a0_1 a0_2 a0_3 a0_4 a0_5 l0_6 l0_7 l0_8 l0_9 a1_0 a1_1 a1_2 a1_3 a1_4 a1_5 l1_6 l1_7 l1_8 l1_9) else ((key_Joins.f a0_2 a0_3 a0_4 a1_2 a1_3 a1_4).bind fun t382 => (if t382 = true then ((key_Good.f a0_2 a0_3 a0_4).bind fun t383 => (if t383 = true then ((key_Good.f a1_2 a1_3 a1_4).bind fun t384 => (rev_Join.j0 k (!t384) a0_0 a0_1 a0_2 a0_3 a0_4 a0_5 l0_6 l0_7 l0_8 l0_9 a1_0 a1_1 a1_2 a1_3 a1_4 a1_5 l1_6 l1_7 l1_8 l1_9)) else (rev_Join.j0 k true a0_0 a0_1 a0_2 a0_3 a0_4 a0_5 l0_6 l0_7 l0_8 l0_9 a1_0 a1_1 a1_2 a1_3 a1_4 a1_5 l1_6 l1_7 l1_8 l1_9))) else (rev_Join.j0 k true a0_0 a0_1 a0_2 a0_3 a0_4 a0_5 l0_6 l0_7 l0_8 l0_9 a1_0 a1_1 a1_2 a1_3 a1_4 a1_5 l1_6 l1_7 l1_8 l1_9))))
def rev_Join.T4 : Bool × List (List Nat × List Nat) := (true, [([], []), ([0], [0]), ([], []), ([2], [2]), ([1, 3], [1, 3]), ([], []), ([5], [5]), ([], []), ([7], [7]), ([6, 8], [6, 8]), ([], []), ([], []), ([11], [11]), ([], []), ([13, 12], [13]), ([12, 14], [12, 14]), ([15, 14], [15]), ([4, 9, 10, 16, 16], [4, 9, 10, 16]), ([17, 17, 0, 1, 2, 3, 4, 5, 6, 7, 8, 9, 10, 11, 12, 13, 14, 15, 16, 17], [17]), ([18, 0, 1, 2, 3, 4, 5, 6, 7, 8, 9, 10, 11, 12, 13, 14, 15, 16, 17, 18], [])])
def rev_Join.B4 : List Nat := [0, 1, 0, 4, 15, 0, 32, 0, 128, 480, 0, 0, 2048, 0, 14336, 30720, 63488, 131071, 262143, 524287]
theorem rev_Join.tab4 : rtab .any (opsOf Try.f49 4) = rev_Join.T4 := by kernel_rfl
theorem rev_Join.bits4 : waitsOk rev_Join.T4.2 rev_Join.B4 = true := by kernel_rfl
set_option maxHeartbeats 8000000 in
set_option maxRecDepth 100000 in
theorem rev_Join.calls (k : Nat) (a0_0 : Int) (a0_1 : Int) (a0_2 : ByteArray) (a0_3 : ByteArray) (a0_4 : Bool) (a0_5 : Bool) (A0_6 : Option Addr) (c0_6 : Nat) (l0_6 : List ByteArray) (A0_7 : Option Addr) (c0_7 : Nat) (l0_7 : List ByteArray) (A0_8 : Option Addr) (c0_8 : Nat) (l0_8 : List Bool) (A0_9 : Option Addr) (c0_9 : Nat) (l0_9 : List Int) (a1_0 : Int) (a1_1 : Int) (a1_2 : ByteArray) (a1_3 : ByteArray) (a1_4 : Bool) (a1_5 : Bool) (A1_6 : Option Addr) (c1_6 : Nat) (l1_6 : List ByteArray) (A1_7 : Option Addr) (c1_7 : Nat) (l1_7 : List ByteArray) (A1_8 : Option Addr) (c1_8 : Nat) (l1_8 : List Bool) (A1_9 : Option Addr) (c1_9 : Nat) (l1_9 : List Int) (r1 : Int) (r2 : Int) (r3 : ByteArray) (r4 : ByteArray) (r5 : Bool) (r6 : Bool) (r7 : List ByteArray) (r8 : List ByteArray) (r9 : List Bool) (r10 : List Int) (r11 : Bool) (w : World) (hr0_6 : Kd.C Kd.string w A0_6 l0_6.length l0_6) (hc0_6 : l0_6.length ≤ c0_6) (hr0_7 : Kd.C Kd.string w A0_7 l0_7.length l0_7) (hc0_7 : l0_7.length ≤ c0_7) (hr0_8 : Kd.C Kd.bool w A0_8 l0_8.length l0_8) (hc0_8 : l0_8.length ≤ c0_8) (hr0_9 : Kd.C (Kd.int .i64) w A0_9 l0_9.length l0_9) (hc0_9 : l0_9.length ≤ c0_9) (hr1_6 : Kd.C Kd.string w A1_6 l1_6.length l1_6) (hc1_6 : l1_6.length ≤ c1_6) (hr1_7 : Kd.C Kd.string w A1_7 l1_7.length l1_7) (hc1_7 : l1_7.length ≤ c1_7) (hr1_8 : Kd.C Kd.bool w A1_8 l1_8.length l1_8) (hc1_8 : l1_8.length ≤ c1_8) (hr1_9 : Kd.C (Kd.int .i64) w A1_9 l1_9.length l1_9) (hc1_9 : l1_9.length ≤ c1_9) (h : rev_Join.f k a0_0 a0_1 a0_2 a0_3 a0_4 a0_5 l0_6 l0_7 l0_8 l0_9 a1_0 a1_1 a1_2 a1_3 a1_4 a1_5 l1_6 l1_7 l1_8 l1_9 = some (r1, r2, r3, r4, r5, r6, r7, r8, r9, r10, r11)) :
  Calls Try.prog 49 #[.agg #[.int .i64 a0_0, .int .i64 a0_1, .string a0_2, .string a0_3, .bool a0_4, .bool a0_5, .slice A0_6 l0_6.length c0_6, .slice A0_7 l0_7.length c0_7, .slice A0_8 l0_8.length c0_8, .slice A0_9 l0_9.length c0_9], .agg #[.int .i64 a1_0, .int .i64 a1_1, .string a1_2, .string a1_3, .bool a1_4, .bool a1_5, .slice A1_6 l1_6.length c1_6, .slice A1_7 l1_7.length c1_7, .slice A1_8 l1_8.length c1_8, .slice A1_9 l1_9.length c1_9]] w fun e w' => ∃ v6_ v7_ v8_ v9_ : Value, e = .returned (.tuple #[.agg #[.int .i64 r1, .int .i64 r2, .string r3, .string r4, .bool r5, .bool r6, v6_, v7_, v8_, v9_], .bool r11]) ∧ Kd.R Kd.string 9 w' w.heap.size (fun k_ => some k_ ≠ (v7_ : Value).ownBlock) v6_ r7 ∧ Kd.R Kd.string 9 w' w.heap.size (fun k_ => some k_ ≠ (v6_ : Value).ownBlock) v7_ r8 ∧ Kd.R Kd.bool 4 w' w.heap.size (fun _ => True) v8_ r9 ∧ Kd.R (Kd.int .i64) 3 w' w.heap.size (fun _ => True) v9_ r10 ∧ Below w.heap.size w w' := by
 have hu37 := Try.underlying37
 have hu32 := Try.underlying32
 have HR0_6 := K0 hr0_6
 have HC0_6 := K0 hc0_6
 clear hr0_6 hc0_6
 have HR0_7 := K0 hr0_7
 have HC0_7 := K0 hc0_7
 clear hr0_7 hc0_7
 have HR0_8 := K0 hr0_8
 have HC0_8 := K0 hc0_8
 clear hr0_8 hc0_8
 have HR0_9 := K0 hr0_9
 have HC0_9 := K0 hc0_9
 clear hr0_9 hc0_9
 have HR1_6 := K0 hr1_6
 have HC1_6 := K0 hc1_6
 clear hr1_6 hc1_6
 have HR1_7 := K0 hr1_7
 have HC1_7 := K0 hc1_7
 clear hr1_7 hc1_7
 have HR1_8 := K0 hr1_8
 have HC1_8 := K0 hc1_8
 clear hr1_8 hc1_8
 have HR1_9 := K0 hr1_9
 have HC1_9 := K0 hc1_9
 clear hr1_9 hc1_9
 have HB := K0 (Below.refl w.heap.size w)
 have H : (if a0_5 = true then (rev_Join.j0 k true a0_0 a0_1 a0_2 a0_3 a0_4 a0_5 l0_6 l0_7 l0_8 l0_9 a1_0 a1_1 a1_2 a1_3 a1_4 a1_5 l1_6 l1_7 l1_8 l1_9) else (if a1_5 = true then (rev_Join.j0 k true a0_0 a0_1 a0_2 a0_3 a0_4 a0_5 l0_6 l0_7 l0_8 l0_9 a1_0 a1_1 a1_2 a1_3 a1_4 a1_5 l1_6 l1_7 l1_8 l1_9) else ((key_Joins.f a0_2 a0_3 a0_4 a1_2 a1_3 a1_4).bind fun t382 => (if t382 = true then ((key_Good.f a0_2 a0_3 a0_4).bind fun t383 => (if t383 = true then ((key_Good.f a1_2 a1_3 a1_4).bind fun t384 => (rev_Join.j0 k (!t384) a0_0 a0_1 a0_2 a0_3 a0_4 a0_5 l0_6 l0_7 l0_8 l0_9 a1_0 a1_1 a1_2 a1_3 a1_4 a1_5 l1_6 l1_7 l1_8 l1_9)) else (rev_Join.j0 k true a0_0 a0_1 a0_2 a0_3 a0_4 a0_5 l0_6 l0_7 l0_8 l0_9 a1_0 a1_1 a1_2 a1_3 a1_4 a1_5 l1_6 l1_7 l1_8 l1_9))) else (rev_Join.j0 k true a0_0 a0_1 a0_2 a0_3 a0_4 a0_5 l0_6 l0_7 l0_8 l0_9 a1_0 a1_1 a1_2 a1_3 a1_4 a1_5 l1_6 l1_7 l1_8 l1_9))))) = some (r1, r2, r3, r4, r5, r6, r7, r8, r9, r10, r11) := h
 clear h
 have HC3 := K0 H
 clear H
 go_enter Try.func49, Try.ntmps49
 go_upto_region 1 with (first | ((with_reducible refine gate_dst (N := 2) rfl ?_); refine box_event ?hg (N := 2) ?hd (cs := #[.int .i64 a0_0, .int .i64 a0_1, .string a0_2, .string a0_3, .bool a0_4, .bool a0_5, .slice A0_6 l0_6.length c0_6, .slice A0_7 l0_7.length c0_7, .slice A0_8 l0_8.length c0_8, .slice A0_9 l0_9.length c0_9]) (t := 37) ?hr ?_; (case hd => rfl); (case hg => rfl); (case hr => first | (go_simp; done) | (go_simp; rfl)); intro gb382 hg w4 hbox hb; have n0_ := K0 (below_step (by repeat (first | (with_reducible first | exact HB.out | apply wA | apply wN | apply wD) | exact HB.out)) hb); have n1_ := K0 (hbox); have n2_ := K0 ((by rw [hg]; exact (below_size (by repeat (first | (with_reducible first | exact HB.out | apply wA | apply wN | apply wD) | exact HB.out))) : w.heap.size ≤ gb382)); have n3_ := K0 ((by rw [hg]; exact (below_size (by repeat (first | (with_reducible first | exact HB.out | apply wA | apply wN | apply wD) | exact HB.out))) : w.heap.size ≤ gb382)); clear HB; have HB := n0_; have BK382 := n1_; have GW382 := n2_; have GE382 := n3_; clear n0_ n1_ n2_ n3_; clear hb hbox hg) | ((with_reducible refine gate_dst (N := 3) rfl ?_); refine box_event ?hg (N := 3) ?hd (cs := #[.int .i64 a1_0, .int .i64 a1_1, .string a1_2, .string a1_3, .bool a1_4, .bool a1_5, .slice A1_6 l1_6.length c1_6, .slice A1_7 l1_7.length c1_7, .slice A1_8 l1_8.length c1_8, .slice A1_9 l1_9.length c1_9]) (t := 37) ?hr ?_; (case hd => rfl); (case hg => rfl); (case hr => first | (go_simp; done) | (go_simp; rfl)); intro gb383 hg w5 hbox hb; have n0_ := K0 (bB (g := gb382) (o := .cells #[.int .i64 a0_0, .int .i64 a0_1, .string a0_2, .string a0_3, .bool a0_4, .bool a0_5, .slice A0_6 l0_6.length c0_6, .slice A0_7 l0_7.length c0_7, .slice A0_8 l0_8.length c0_8, .slice A0_9 l0_9.length c0_9] 37 (0, 0)) (by (with_reducible repeat (first | refine bN ?_ _ | refine bD ?_ | refine bA ?_ _)); exact BK382.out) hb); have n1_ := K0 (below_step (by repeat (first | (with_reducible first | exact HB.out | apply wA | apply wN | apply wD | refine wS ?_ GE382.out) | exact HB.out)) hb); have n2_ := K0 (hbox); have n3_ := K0 ((by rw [hg]; exact (below_size (by repeat (first | (with_reducible first | exact HB.out | apply wA | apply wN | apply wD | refine wS ?_ GE382.out) | exact HB.out))) : w.heap.size ≤ gb383)); have n4_ := K0 ((by rw [hg]; exact (below_size (by repeat (first | (with_reducible first | exact HB.out | apply wA | apply wN | apply wD | refine wS ?_ GE382.out) | exact HB.out))) : w.heap.size ≤ gb383)); have n5_ := K0 ((by rw [hg]; exact Nat.ne_of_lt (blk_lt (g := gb382) (o := .cells #[.int .i64 a0_0, .int .i64 a0_1, .string a0_2, .string a0_3, .bool a0_4, .bool a0_5, .slice A0_6 l0_6.length c0_6, .slice A0_7 l0_7.length c0_7, .slice A0_8 l0_8.length c0_8, .slice A0_9 l0_9.length c0_9] 37 (0, 0)) (by (with_reducible repeat (first | refine bN ?_ _ | refine bD ?_ | refine bA ?_ _)); exact BK382.out)) : gb382 ≠ gb383)); have n6_ := K0 ((by rw [hg]; exact Nat.ne_of_gt (blk_lt (g := gb382) (o := .cells #[.int .i64 a0_0, .int .i64 a0_1, .string a0_2, .string a0_3, .bool a0_4, .bool a0_5, .slice A0_6 l0_6.length c0_6, .slice A0_7 l0_7.length c0_7, .slice A0_8 l0_8.length c0_8, .slice A0_9 l0_9.length c0_9] 37 (0, 0)) (by (with_reducible repeat (first | refine bN ?_ _ | refine bD ?_ | refine bA ?_ _)); exact BK382.out)) : gb383 ≠ gb382)); clear BK382; clear HB; have BK382 := n0_; have HB := n1_; have BK383 := n2_; have GW383 := n3_; have GE383 := n4_; have NB382_383 := n5_; have NB383_382 := n6_; clear n0_ n1_ n2_ n3_ n4_ n5_ n6_; clear hb hbox hg) | ((with_reducible refine gate_dst (N := 4) rfl ?_); refine box_event ?hg (N := 4) ?hd (cs := #[.int .i64 0, .int .i64 0, .string (⟨#[]⟩ : ByteArray), .string (⟨#[]⟩ : ByteArray), .bool false, .bool false, .slice none 0 0, .slice none 0 0, .slice none 0 0, .slice none 0 0]) (t := 37) ?hr ?_; (case hd => rfl); (case hg => rfl); (case hr => first | (go_simp; done) | (go_simp; rfl)); intro gb384 hg w6 hbox hb; have n0_ := K0 (bB (g := gb382) (o := .cells #[.int .i64 a0_0, .int .i64 a0_1, .string a0_2, .string a0_3, .bool a0_4, .bool a0_5, .slice A0_6 l0_6.length c0_6, .slice A0_7 l0_7.length c0_7, .slice A0_8 l0_8.length c0_8, .slice A0_9 l0_9.length c0_9] 37 (0, 0)) (by (with_reducible repeat (first | refine bN ?_ _ | refine bD ?_ | refine bA ?_ _)); exact BK382.out) hb); have n1_ := K0 (bB (g := gb383) (o := .cells #[.int .i64 a1_0, .int .i64 a1_1, .string a1_2, .string a1_3, .bool a1_4, .bool a1_5, .slice A1_6 l1_6.length c1_6, .slice A1_7 l1_7.length c1_7, .slice A1_8 l1_8.length c1_8, .slice A1_9 l1_9.length c1_9] 37 (0, 0)) (by (with_reducible repeat (first | refine bN ?_ _ | refine bD ?_ | refine bA ?_ _)); exact BK383.out) hb); have n2_ := K0 (below_step (by repeat (first | (with_reducible first | exact HB.out | apply wA | apply wN | apply wD | refine wS ?_ GE382.out | refine wS ?_ GE383.out) | exact HB.out)) hb); have n3_ := K0 (hbox); have n4_ := K0 ((by rw [hg]; exact (below_size (by repeat (first | (with_reducible first | exact HB.out | apply wA | apply wN | apply wD | refine wS ?_ GE382.out | refine wS ?_ GE383.out) | exact HB.out))) : w.heap.size ≤ gb384)); have n5_ := K0 ((by rw [hg]; exact (below_size (by repeat (first | (with_reducible first | exact HB.out | apply wA | apply wN | apply wD | refine wS ?_ GE382.out | refine wS ?_ GE383.out) | exact HB.out))) : w.heap.size ≤ gb384)); have n6_ := K0 ((by rw [hg]; exact Nat.ne_of_lt (blk_lt (g := gb382) (o := .cells #[.int .i64 a0_0, .int .i64 a0_1, .string a0_2, .string a0_3, .bool a0_4, .bool a0_5, .slice A0_6 l0_6.length c0_6, .slice A0_7 l0_7.length c0_7, .slice A0_8 l0_8.length c0_8, .slice A0_9 l0_9.length c0_9] 37 (0, 0)) (by (with_reducible repeat (first | refine bN ?_ _ | refine bD ?_ | refine bA ?_ _)); exact BK382.out)) : gb382 ≠ gb384)); have n7_ := K0 ((by rw [hg]; exact Nat.ne_of_gt (blk_lt (g := gb382) (o := .cells #[.int .i64 a0_0, .int .i64 a0_1, .string a0_2, .string a0_3, .bool a0_4, .bool a0_5, .slice A0_6 l0_6.length c0_6, .slice A0_7 l0_7.length c0_7, .slice A0_8 l0_8.length c0_8, .slice A0_9 l0_9.length c0_9] 37 (0, 0)) (by (with_reducible repeat (first | refine bN ?_ _ | refine bD ?_ | refine bA ?_ _)); exact BK382.out)) : gb384 ≠ gb382)); have n8_ := K0 ((by rw [hg]; exact Nat.ne_of_lt (blk_lt (g := gb383) (o := .cells #[.int .i64 a1_0, .int .i64 a1_1, .string a1_2, .string a1_3, .bool a1_4, .bool a1_5, .slice A1_6 l1_6.length c1_6, .slice A1_7 l1_7.length c1_7, .slice A1_8 l1_8.length c1_8, .slice A1_9 l1_9.length c1_9] 37 (0, 0)) (by (with_reducible repeat (first | refine bN ?_ _ | refine bD ?_ | refine bA ?_ _)); exact BK383.out)) : gb383 ≠ gb384)); have n9_ := K0 ((by rw [hg]; exact Nat.ne_of_gt (blk_lt (g := gb383) (o := .cells #[.int .i64 a1_0, .int .i64 a1_1, .string a1_2, .string a1_3, .bool a1_4, .bool a1_5, .slice A1_6 l1_6.length c1_6, .slice A1_7 l1_7.length c1_7, .slice A1_8 l1_8.length c1_8, .slice A1_9 l1_9.length c1_9] 37 (0, 0)) (by (with_reducible repeat (first | refine bN ?_ _ | refine bD ?_ | refine bA ?_ _)); exact BK383.out)) : gb384 ≠ gb383)); clear BK382; clear BK383; clear HB; have BK382 := n0_; have BK383 := n1_; have HB := n2_; have BK384 := n3_; have GW384 := n4_; have GE384 := n5_; have NB382_384 := n6_; have NB384_382 := n7_; have NB383_384 := n8_; have NB384_383 := n9_; clear n0_ n1_ n2_ n3_ n4_ n5_ n6_ n7_ n8_ n9_; clear hb hbox hg))
 (try simp only [Act.put, s1, s2, s3])
 go_cut [32] (fun v32 wc => ∃ (kq : Nat) (x32_2 : Bool), v32 = .bool x32_2 ∧ Aside0 (rev_Join.j0 kq x32_2 a0_0 a0_1 a0_2 a0_3 a0_4 a0_5 l0_6 l0_7 l0_8 l0_9 a1_0 a1_1 a1_2 a1_3 a1_4 a1_5 l1_6 l1_7 l1_8 l1_9 = some (r1, r2, r3, r4, r5, r6, r7, r8, r9, r10, r11)) ∧ Aside0 (kq ≤ k) ∧ Aside0 (wc.heap[gb382]? = some (.cells #[.int .i64 a0_0, .int .i64 a0_1, .string a0_2, .string a0_3, .bool a0_4, .bool a0_5, (.slice A0_6 l0_6.length c0_6), (.slice A0_7 l0_7.length c0_7), (.slice A0_8 l0_8.length c0_8), (.slice A0_9 l0_9.length c0_9)] 37 (0, 0))) ∧ Aside0 (wc.heap[gb383]? = some (.cells #[.int .i64 a1_0, .int .i64 a1_1, .string a1_2, .string a1_3, .bool a1_4, .bool a1_5, (.slice A1_6 l1_6.length c1_6), (.slice A1_7 l1_7.length c1_7), (.slice A1_8 l1_8.length c1_8), (.slice A1_9 l1_9.length c1_9)] 37 (0, 0))) ∧ Aside0 (wc.heap[gb384]? = some (.cells #[.int .i64 0, .int .i64 0, .string (⟨#[]⟩ : ByteArray), .string (⟨#[]⟩ : ByteArray), .bool false, .bool false, (.slice none 0 0), (.slice none 0 0), (.slice none 0 0), (.slice none 0 0)] 37 (0, 0))) ∧ Aside0 (Below w.heap.size w wc))
 case first =>
  have H := HC3.out
  clear HC3
  by_cases c7 : a0_5 = true
  ·
   subst c7; have H1 : (rev_Join.j0 k true a0_0 a0_1 a0_2 a0_3 a0_4 true l0_6 l0_7 l0_8 l0_9 a1_0 a1_1 a1_2 a1_3 a1_4 a1_5 l1_6 l1_7 l1_8 l1_9) = some (r1, r2, r3, r4, r5, r6, r7, r8, r9, r10, r11) := by rw [if_pos rfl] at H; exact H
   clear H; have H := H1; clear H1; have H' := K0 H; clear H; have hnb8 := NB382_383.out; have hnc8 := NB383_382.out; have hnb9 := NB382_384.out; have hnc9 := NB384_382.out; obtain ⟨hcz10_0, hcz10_1, hcz10_2, hcz10_3, hcz10_4, hcz10_5, hcz10_6, hcz10_7, hcz10_8, hcz10_9⟩ := cellS10 BK382.out; obtain ⟨hfz10_0, hfz10_1, hfz10_2, hfz10_3, hfz10_4, hfz10_5, hfz10_6, hfz10_7, hfz10_8, hfz10_9⟩ := frozS10 BK382.out; go_wp2
   go_meet
   case rel => exact ⟨_, (true), (by first | rfl | (simp; done) | (simp [*]; done)), H', ⟨by first | omega | exact Nat.le_refl _⟩, ⟨by (with_reducible repeat (first | refine bN ?_ _ | refine bD ?_ | refine bA ?_ _)); exact BK382.out⟩, ⟨by (with_reducible repeat (first | refine bN ?_ _ | refine bD ?_ | refine bA ?_ _)); exact BK383.out⟩, ⟨by (with_reducible repeat (first | refine bN ?_ _ | refine bD ?_ | refine bA ?_ _)); exact BK384.out⟩, ⟨by repeat (first | (with_reducible first | exact HB.out | apply wA | apply wN | apply wD | refine wS ?_ GE382.out | refine wS ?_ GE383.out | refine wS ?_ GE384.out) | exact HB.out)⟩⟩
  replace c7 := Bool.eq_false_iff.mpr c7
  subst c7
  have H1 : (if a1_5 = true then (rev_Join.j0 k true a0_0 a0_1 a0_2 a0_3 a0_4 false l0_6 l0_7 l0_8 l0_9 a1_0 a1_1 a1_2 a1_3 a1_4 a1_5 l1_6 l1_7 l1_8 l1_9) else ((key_Joins.f a0_2 a0_3 a0_4 a1_2 a1_3 a1_4).bind fun t382 => (if t382 = true then ((key_Good.f a0_2 a0_3 a0_4).bind fun t383 => (if t383 = true then ((key_Good.f a1_2 a1_3 a1_4).bind fun t384 => (rev_Join.j0 k (!t384) a0_0 a0_1 a0_2 a0_3 a0_4 false l0_6 l0_7 l0_8 l0_9 a1_0 a1_1 a1_2 a1_3 a1_4 a1_5 l1_6 l1_7 l1_8 l1_9)) else (rev_Join.j0 k true a0_0 a0_1 a0_2 a0_3 a0_4 false l0_6 l0_7 l0_8 l0_9 a1_0 a1_1 a1_2 a1_3 a1_4 a1_5 l1_6 l1_7 l1_8 l1_9))) else (rev_Join.j0 k true a0_0 a0_1 a0_2 a0_3 a0_4 false l0_6 l0_7 l0_8 l0_9 a1_0 a1_1 a1_2 a1_3 a1_4 a1_5 l1_6 l1_7 l1_8 l1_9)))) = some (r1, r2, r3, r4, r5, r6, r7, r8, r9, r10, r11) := by rw [if_neg (show ¬ (false = true) by decide)] at H; exact H
  clear H
  have H := H1
  clear H1
  by_cases c11 : a1_5 = true
  ·
   subst c11; have H1 : (rev_Join.j0 k true a0_0 a0_1 a0_2 a0_3 a0_4 false l0_6 l0_7 l0_8 l0_9 a1_0 a1_1 a1_2 a1_3 a1_4 true l1_6 l1_7 l1_8 l1_9) = some (r1, r2, r3, r4, r5, r6, r7, r8, r9, r10, r11) := by rw [if_pos rfl] at H; exact H
   clear H; have H := H1; clear H1; have H' := K0 H; clear H; have hnb12 := NB382_383.out; have hnc12 := NB383_382.out; have hnb13 := NB382_384.out; have hnc13 := NB384_382.out; obtain ⟨hcz14_0, hcz14_1, hcz14_2, hcz14_3, hcz14_4, hcz14_5, hcz14_6, hcz14_7, hcz14_8, hcz14_9⟩ := cellS10 BK382.out; obtain ⟨hfz14_0, hfz14_1, hfz14_2, hfz14_3, hfz14_4, hfz14_5, hfz14_6, hfz14_7, hfz14_8, hfz14_9⟩ := frozS10 BK382.out; have hnb15 := NB383_384.out; have hnc15 := NB384_383.out; obtain ⟨hcz16_0, hcz16_1, hcz16_2, hcz16_3, hcz16_4, hcz16_5, hcz16_6, hcz16_7, hcz16_8, hcz16_9⟩ := cellS10 BK383.out; obtain ⟨hfz16_0, hfz16_1, hfz16_2, hfz16_3, hfz16_4, hfz16_5, hfz16_6, hfz16_7, hfz16_8, hfz16_9⟩ := frozS10 BK383.out; go_wp2
   go_meet
   case rel => exact ⟨_, (true), (by first | rfl | (simp; done) | (simp [*]; done)), H', ⟨by first | omega | exact Nat.le_refl _⟩, ⟨by (with_reducible repeat (first | refine bN ?_ _ | refine bD ?_ | refine bA ?_ _)); exact BK382.out⟩, ⟨by (with_reducible repeat (first | refine bN ?_ _ | refine bD ?_ | refine bA ?_ _)); exact BK383.out⟩, ⟨by (with_reducible repeat (first | refine bN ?_ _ | refine bD ?_ | refine bA ?_ _)); exact BK384.out⟩, ⟨by repeat (first | (with_reducible first | exact HB.out | apply wA | apply wN | apply wD | refine wS ?_ GE382.out | refine wS ?_ GE383.out | refine wS ?_ GE384.out) | exact HB.out)⟩⟩
  replace c11 := Bool.eq_false_iff.mpr c11
  subst c11
  have H1 : ((key_Joins.f a0_2 a0_3 a0_4 a1_2 a1_3 a1_4).bind fun t382 => (if t382 = true then ((key_Good.f a0_2 a0_3 a0_4).bind fun t383 => (if t383 = true then ((key_Good.f a1_2 a1_3 a1_4).bind fun t384 => (rev_Join.j0 k (!t384) a0_0 a0_1 a0_2 a0_3 a0_4 false l0_6 l0_7 l0_8 l0_9 a1_0 a1_1 a1_2 a1_3 a1_4 false l1_6 l1_7 l1_8 l1_9)) else (rev_Join.j0 k true a0_0 a0_1 a0_2 a0_3 a0_4 false l0_6 l0_7 l0_8 l0_9 a1_0 a1_1 a1_2 a1_3 a1_4 false l1_6 l1_7 l1_8 l1_9))) else (rev_Join.j0 k true a0_0 a0_1 a0_2 a0_3 a0_4 false l0_6 l0_7 l0_8 l0_9 a1_0 a1_1 a1_2 a1_3 a1_4 false l1_6 l1_7 l1_8 l1_9))) = some (r1, r2, r3, r4, r5, r6, r7, r8, r9, r10, r11) := by rw [if_neg (show ¬ (false = true) by decide)] at H; exact H
  clear H
  have H := H1
  clear H1
  replace H := Option.bind_eq_some_iff.mp H
  obtain ⟨t382, A170, H⟩ := H
  replace H : (if t382 = true then ((key_Good.f a0_2 a0_3 a0_4).bind fun t383 => (if t383 = true then ((key_Good.f a1_2 a1_3 a1_4).bind fun t384 => (rev_Join.j0 k (!t384) a0_0 a0_1 a0_2 a0_3 a0_4 false l0_6 l0_7 l0_8 l0_9 a1_0 a1_1 a1_2 a1_3 a1_4 false l1_6 l1_7 l1_8 l1_9)) else (rev_Join.j0 k true a0_0 a0_1 a0_2 a0_3 a0_4 false l0_6 l0_7 l0_8 l0_9 a1_0 a1_1 a1_2 a1_3 a1_4 false l1_6 l1_7 l1_8 l1_9))) else (rev_Join.j0 k true a0_0 a0_1 a0_2 a0_3 a0_4 false l0_6 l0_7 l0_8 l0_9 a1_0 a1_1 a1_2 a1_3 a1_4 false l1_6 l1_7 l1_8 l1_9)) = some (r1, r2, r3, r4, r5, r6, r7, r8, r9, r10, r11) := H
  have A17 := K0 A170
  clear A170
  by_cases c18 : t382 = true
  ·
   subst c18; have H1 : ((key_Good.f a0_2 a0_3 a0_4).bind fun t383 => (if t383 = true then ((key_Good.f a1_2 a1_3 a1_4).bind fun t384 => (rev_Join.j0 k (!t384) a0_0 a0_1 a0_2 a0_3 a0_4 false l0_6 l0_7 l0_8 l0_9 a1_0 a1_1 a1_2 a1_3 a1_4 false l1_6 l1_7 l1_8 l1_9)) else (rev_Join.j0 k true a0_0 a0_1 a0_2 a0_3 a0_4 false l0_6 l0_7 l0_8 l0_9 a1_0 a1_1 a1_2 a1_3 a1_4 false l1_6 l1_7 l1_8 l1_9))) = some (r1, r2, r3, r4, r5, r6, r7, r8, r9, r10, r11) := by rw [if_pos rfl] at H; exact H
   clear H; have H := H1; clear H1; replace H := Option.bind_eq_some_iff.mp H; obtain ⟨t383, A190, H⟩ := H; replace H : (if t383 = true then ((key_Good.f a1_2 a1_3 a1_4).bind fun t384 => (rev_Join.j0 k (!t384) a0_0 a0_1 a0_2 a0_3 a0_4 false l0_6 l0_7 l0_8 l0_9 a1_0 a1_1 a1_2 a1_3 a1_4 false l1_6 l1_7 l1_8 l1_9)) else (rev_Join.j0 k true a0_0 a0_1 a0_2 a0_3 a0_4 false l0_6 l0_7 l0_8 l0_9 a1_0 a1_1 a1_2 a1_3 a1_4 false l1_6 l1_7 l1_8 l1_9)) = some (r1, r2, r3, r4, r5, r6, r7, r8, r9, r10, r11) := H; have A19 := K0 A190; clear A190; by_cases c20 : t383 = true
   ·
    subst c20; have H1 : ((key_Good.f a1_2 a1_3 a1_4).bind fun t384 => (rev_Join.j0 k (!t384) a0_0 a0_1 a0_2 a0_3 a0_4 false l0_6 l0_7 l0_8 l0_9 a1_0 a1_1 a1_2 a1_3 a1_4 false l1_6 l1_7 l1_8 l1_9)) = some (r1, r2, r3, r4, r5, r6, r7, r8, r9, r10, r11) := by rw [if_pos rfl] at H; exact H
    clear H; have H := H1; clear H1; replace H := Option.bind_eq_some_iff.mp H; obtain ⟨t384, A210, H⟩ := H; replace H : (rev_Join.j0 k (!t384) a0_0 a0_1 a0_2 a0_3 a0_4 false l0_6 l0_7 l0_8 l0_9 a1_0 a1_1 a1_2 a1_3 a1_4 false l1_6 l1_7 l1_8 l1_9) = some (r1, r2, r3, r4, r5, r6, r7, r8, r9, r10, r11) := H; have A21 := K0 A210; clear A210; have H' := K0 H; clear H; have hnb22 := NB382_383.out; have hnc22 := NB383_382.out; have hnb23 := NB382_384.out; have hnc23 := NB384_382.out; obtain ⟨hcz24_0, hcz24_1, hcz24_2, hcz24_3, hcz24_4, hcz24_5, hcz24_6, hcz24_7, hcz24_8, hcz24_9⟩ := cellS10 BK382.out; obtain ⟨hfz24_0, hfz24_1, hfz24_2, hfz24_3, hfz24_4, hfz24_5, hfz24_6, hfz24_7, hfz24_8, hfz24_9⟩ := frozS10 BK382.out; have hnb25 := NB383_384.out; have hnc25 := NB384_383.out; obtain ⟨hcz26_0, hcz26_1, hcz26_2, hcz26_3, hcz26_4, hcz26_5, hcz26_6, hcz26_7, hcz26_8, hcz26_9⟩ := cellS10 BK383.out; obtain ⟨hfz26_0, hfz26_1, hfz26_2, hfz26_3, hfz26_4, hfz26_5, hfz26_6, hfz26_7, hfz26_8, hfz26_9⟩ := frozS10 BK383.out; go_wp2_with (first | (go_at_call 51; (with_reducible refine (key_Joins.calls a0_2 a0_3 a0_4 a1_2 a1_3 a1_4 true _ A17.out).mono ?_); rintro e w27 ⟨rfl, hb⟩; have n0_ := K0 (bB (g := gb382) (o := .cells #[.int .i64 a0_0, .int .i64 a0_1, .string a0_2, .string a0_3, .bool a0_4, .bool false, .slice A0_6 l0_6.length c0_6, .slice A0_7 l0_7.length c0_7, .slice A0_8 l0_8.length c0_8, .slice A0_9 l0_9.length c0_9] 37 (0, 0)) (by (with_reducible repeat (first | refine bN ?_ _ | refine bD ?_ | refine bA ?_ _)); exact BK382.out) hb); have n1_ := K0 (bB (g := gb383) (o := .cells #[.int .i64 a1_0, .int .i64 a1_1, .string a1_2, .string a1_3, .bool a1_4, .bool false, .slice A1_6 l1_6.length c1_6, .slice A1_7 l1_7.length c1_7, .slice A1_8 l1_8.length c1_8, .slice A1_9 l1_9.length c1_9] 37 (0, 0)) (by (with_reducible repeat (first | refine bN ?_ _ | refine bD ?_ | refine bA ?_ _)); exact BK383.out) hb); have n2_ := K0 (bB (g := gb384) (o := .cells #[.int .i64 0, .int .i64 0, .string (⟨#[]⟩ : ByteArray), .string (⟨#[]⟩ : ByteArray), .bool false, .bool false, .slice none 0 0, .slice none 0 0, .slice none 0 0, .slice none 0 0] 37 (0, 0)) (by (with_reducible repeat (first | refine bN ?_ _ | refine bD ?_ | refine bA ?_ _)); exact BK384.out) hb); have n3_ := K0 (below_step (by repeat (first | (with_reducible first | exact HB.out | apply wA | apply wN | apply wD | refine wS ?_ GE382.out | refine wS ?_ GE383.out | refine wS ?_ GE384.out) | exact HB.out)) hb); clear BK382; clear BK383; clear BK384; clear HB; have BK382 := n0_; have BK383 := n1_; have BK384 := n2_; have HB := n3_; clear n0_ n1_ n2_ n3_; (try clear hb); (try clear hb2); (try clear hk); (try clear hi); obtain ⟨hcz28_0, hcz28_1, hcz28_2, hcz28_3, hcz28_4, hcz28_5, hcz28_6, hcz28_7, hcz28_8, hcz28_9⟩ := cellS10 BK382.out; obtain ⟨hfz28_0, hfz28_1, hfz28_2, hfz28_3, hfz28_4, hfz28_5, hfz28_6, hfz28_7, hfz28_8, hfz28_9⟩ := frozS10 BK382.out) | (go_at_call 81; (with_reducible refine (key_Good.calls a0_2 a0_3 a0_4 true _ A19.out).mono ?_); rintro e w29 ⟨rfl, hb⟩; have n0_ := K0 (bB (g := gb382) (o := .cells #[.int .i64 a0_0, .int .i64 a0_1, .string a0_2, .string a0_3, .bool a0_4, .bool false, .slice A0_6 l0_6.length c0_6, .slice A0_7 l0_7.length c0_7, .slice A0_8 l0_8.length c0_8, .slice A0_9 l0_9.length c0_9] 37 (0, 0)) (by (with_reducible repeat (first | refine bN ?_ _ | refine bD ?_ | refine bA ?_ _)); exact BK382.out) hb); have n1_ := K0 (bB (g := gb383) (o := .cells #[.int .i64 a1_0, .int .i64 a1_1, .string a1_2, .string a1_3, .bool a1_4, .bool false, .slice A1_6 l1_6.length c1_6, .slice A1_7 l1_7.length c1_7, .slice A1_8 l1_8.length c1_8, .slice A1_9 l1_9.length c1_9] 37 (0, 0)) (by (with_reducible repeat (first | refine bN ?_ _ | refine bD ?_ | refine bA ?_ _)); exact BK383.out) hb); have n2_ := K0 (bB (g := gb384) (o := .cells #[.int .i64 0, .int .i64 0, .string (⟨#[]⟩ : ByteArray), .string (⟨#[]⟩ : ByteArray), .bool false, .bool false, .slice none 0 0, .slice none 0 0, .slice none 0 0, .slice none 0 0] 37 (0, 0)) (by (with_reducible repeat (first | refine bN ?_ _ | refine bD ?_ | refine bA ?_ _)); exact BK384.out) hb); have n3_ := K0 (below_step (by repeat (first | (with_reducible first | exact HB.out | apply wA | apply wN | apply wD | refine wS ?_ GE382.out | refine wS ?_ GE383.out | refine wS ?_ GE384.out) | exact HB.out)) hb); clear BK382; clear BK383; clear BK384; clear HB; have BK382 := n0_; have BK383 := n1_; have BK384 := n2_; have HB := n3_; clear n0_ n1_ n2_ n3_; (try clear hb); (try clear hb2); (try clear hk); (try clear hi); obtain ⟨hcz30_0, hcz30_1, hcz30_2, hcz30_3, hcz30_4, hcz30_5, hcz30_6, hcz30_7, hcz30_8, hcz30_9⟩ := cellS10 BK383.out; obtain ⟨hfz30_0, hfz30_1, hfz30_2, hfz30_3, hfz30_4, hfz30_5, hfz30_6, hfz30_7, hfz30_8, hfz30_9⟩ := frozS10 BK383.out) | (go_at_call 81; (with_reducible refine (key_Good.calls a1_2 a1_3 a1_4 t384 _ A21.out).mono ?_); rintro e w31 ⟨rfl, hb⟩; have n0_ := K0 (bB (g := gb382) (o := .cells #[.int .i64 a0_0, .int .i64 a0_1, .string a0_2, .string a0_3, .bool a0_4, .bool false, .slice A0_6 l0_6.length c0_6, .slice A0_7 l0_7.length c0_7, .slice A0_8 l0_8.length c0_8, .slice A0_9 l0_9.length c0_9] 37 (0, 0)) (by (with_reducible repeat (first | refine bN ?_ _ | refine bD ?_ | refine bA ?_ _)); exact BK382.out) hb); have n1_ := K0 (bB (g := gb383) (o := .cells #[.int .i64 a1_0, .int .i64 a1_1, .string a1_2, .string a1_3, .bool a1_4, .bool false, .slice A1_6 l1_6.length c1_6, .slice A1_7 l1_7.length c1_7, .slice A1_8 l1_8.length c1_8, .slice A1_9 l1_9.length c1_9] 37 (0, 0)) (by (with_reducible repeat (first | refine bN ?_ _ | refine bD ?_ | refine bA ?_ _)); exact BK383.out) hb); have n2_ := K0 (bB (g := gb384) (o := .cells #[.int .i64 0, .int .i64 0, .string (⟨#[]⟩ : ByteArray), .string (⟨#[]⟩ : ByteArray), .bool false, .bool false, .slice none 0 0, .slice none 0 0, .slice none 0 0, .slice none 0 0] 37 (0, 0)) (by (with_reducible repeat (first | refine bN ?_ _ | refine bD ?_ | refine bA ?_ _)); exact BK384.out) hb); have n3_ := K0 (below_step (by repeat (first | (with_reducible first | exact HB.out | apply wA | apply wN | apply wD | refine wS ?_ GE382.out | refine wS ?_ GE383.out | refine wS ?_ GE384.out) | exact HB.out)) hb); clear BK382; clear BK383; clear BK384; clear HB; have BK382 := n0_; have BK383 := n1_; have BK384 := n2_; have HB := n3_; clear n0_ n1_ n2_ n3_; (try clear hb); (try clear hb2); (try clear hk); (try clear hi)))
    go_meet
    case rel => exact ⟨_, (!t384), (by first | rfl | (simp; done) | (simp [*]; done)), H', ⟨by first | omega | exact Nat.le_refl _⟩, ⟨by (with_reducible repeat (first | refine bN ?_ _ | refine bD ?_ | refine bA ?_ _)); exact BK382.out⟩, ⟨by (with_reducible repeat (first | refine bN ?_ _ | refine bD ?_ | refine bA ?_ _)); exact BK383.out⟩, ⟨by (with_reducible repeat (first | refine bN ?_ _ | refine bD ?_ | refine bA ?_ _)); exact BK384.out⟩, ⟨by repeat (first | (with_reducible first | exact HB.out | apply wA | apply wN | apply wD | refine wS ?_ GE382.out | refine wS ?_ GE383.out | refine wS ?_ GE384.out) | exact HB.out)⟩⟩
   replace c20 := Bool.eq_false_iff.mpr c20; subst c20; have H1 : (rev_Join.j0 k true a0_0 a0_1 a0_2 a0_3 a0_4 false l0_6 l0_7 l0_8 l0_9 a1_0 a1_1 a1_2 a1_3 a1_4 false l1_6 l1_7 l1_8 l1_9) = some (r1, r2, r3, r4, r5, r6, r7, r8, r9, r10, r11) := by rw [if_neg (show ¬ (false = true) by decide)] at H; exact H
   clear H; have H := H1; clear H1; have H' := K0 H; clear H; have hnb32 := NB382_383.out; have hnc32 := NB383_382.out; have hnb33 := NB382_384.out; have hnc33 := NB384_382.out; obtain ⟨hcz34_0, hcz34_1, hcz34_2, hcz34_3, hcz34_4, hcz34_5, hcz34_6, hcz34_7, hcz34_8, hcz34_9⟩ := cellS10 BK382.out; obtain ⟨hfz34_0, hfz34_1, hfz34_2, hfz34_3, hfz34_4, hfz34_5, hfz34_6, hfz34_7, hfz34_8, hfz34_9⟩ := frozS10 BK382.out; have hnb35 := NB383_384.out; have hnc35 := NB384_383.out; obtain ⟨hcz36_0, hcz36_1, hcz36_2, hcz36_3, hcz36_4, hcz36_5, hcz36_6, hcz36_7, hcz36_8, hcz36_9⟩ := cellS10 BK383.out; obtain ⟨hfz36_0, hfz36_1, hfz36_2, hfz36_3, hfz36_4, hfz36_5, hfz36_6, hfz36_7, hfz36_8, hfz36_9⟩ := frozS10 BK383.out; go_wp2_with (first | (go_at_call 51; (with_reducible refine (key_Joins.calls a0_2 a0_3 a0_4 a1_2 a1_3 a1_4 true _ A17.out).mono ?_); rintro e w37 ⟨rfl, hb⟩; have n0_ := K0 (bB (g := gb382) (o := .cells #[.int .i64 a0_0, .int .i64 a0_1, .string a0_2, .string a0_3, .bool a0_4, .bool false, .slice A0_6 l0_6.length c0_6, .slice A0_7 l0_7.length c0_7, .slice A0_8 l0_8.length c0_8, .slice A0_9 l0_9.length c0_9] 37 (0, 0)) (by (with_reducible repeat (first | refine bN ?_ _ | refine bD ?_ | refine bA ?_ _)); exact BK382.out) hb); have n1_ := K0 (bB (g := gb383) (o := .cells #[.int .i64 a1_0, .int .i64 a1_1, .string a1_2, .string a1_3, .bool a1_4, .bool false, .slice A1_6 l1_6.length c1_6, .slice A1_7 l1_7.length c1_7, .slice A1_8 l1_8.length c1_8, .slice A1_9 l1_9.length c1_9] 37 (0, 0)) (by (with_reducible repeat (first | refine bN ?_ _ | refine bD ?_ | refine bA ?_ _)); exact BK383.out) hb); have n2_ := K0 (bB (g := gb384) (o := .cells #[.int .i64 0, .int .i64 0, .string (⟨#[]⟩ : ByteArray), .string (⟨#[]⟩ : ByteArray), .bool false, .bool false, .slice none 0 0, .slice none 0 0, .slice none 0 0, .slice none 0 0] 37 (0, 0)) (by (with_reducible repeat (first | refine bN ?_ _ | refine bD ?_ | refine bA ?_ _)); exact BK384.out) hb); have n3_ := K0 (below_step (by repeat (first | (with_reducible first | exact HB.out | apply wA | apply wN | apply wD | refine wS ?_ GE382.out | refine wS ?_ GE383.out | refine wS ?_ GE384.out) | exact HB.out)) hb); clear BK382; clear BK383; clear BK384; clear HB; have BK382 := n0_; have BK383 := n1_; have BK384 := n2_; have HB := n3_; clear n0_ n1_ n2_ n3_; (try clear hb); (try clear hb2); (try clear hk); (try clear hi); obtain ⟨hcz38_0, hcz38_1, hcz38_2, hcz38_3, hcz38_4, hcz38_5, hcz38_6, hcz38_7, hcz38_8, hcz38_9⟩ := cellS10 BK382.out; obtain ⟨hfz38_0, hfz38_1, hfz38_2, hfz38_3, hfz38_4, hfz38_5, hfz38_6, hfz38_7, hfz38_8, hfz38_9⟩ := frozS10 BK382.out) | (go_at_call 81; (with_reducible refine (key_Good.calls a0_2 a0_3 a0_4 false _ A19.out).mono ?_); rintro e w39 ⟨rfl, hb⟩; have n0_ := K0 (bB (g := gb382) (o := .cells #[.int .i64 a0_0, .int .i64 a0_1, .string a0_2, .string a0_3, .bool a0_4, .bool false, .slice A0_6 l0_6.length c0_6, .slice A0_7 l0_7.length c0_7, .slice A0_8 l0_8.length c0_8, .slice A0_9 l0_9.length c0_9] 37 (0, 0)) (by (with_reducible repeat (first | refine bN ?_ _ | refine bD ?_ | refine bA ?_ _)); exact BK382.out) hb); have n1_ := K0 (bB (g := gb383) (o := .cells #[.int .i64 a1_0, .int .i64 a1_1, .string a1_2, .string a1_3, .bool a1_4, .bool false, .slice A1_6 l1_6.length c1_6, .slice A1_7 l1_7.length c1_7, .slice A1_8 l1_8.length c1_8, .slice A1_9 l1_9.length c1_9] 37 (0, 0)) (by (with_reducible repeat (first | refine bN ?_ _ | refine bD ?_ | refine bA ?_ _)); exact BK383.out) hb); have n2_ := K0 (bB (g := gb384) (o := .cells #[.int .i64 0, .int .i64 0, .string (⟨#[]⟩ : ByteArray), .string (⟨#[]⟩ : ByteArray), .bool false, .bool false, .slice none 0 0, .slice none 0 0, .slice none 0 0, .slice none 0 0] 37 (0, 0)) (by (with_reducible repeat (first | refine bN ?_ _ | refine bD ?_ | refine bA ?_ _)); exact BK384.out) hb); have n3_ := K0 (below_step (by repeat (first | (with_reducible first | exact HB.out | apply wA | apply wN | apply wD | refine wS ?_ GE382.out | refine wS ?_ GE383.out | refine wS ?_ GE384.out) | exact HB.out)) hb); clear BK382; clear BK383; clear BK384; clear HB; have BK382 := n0_; have BK383 := n1_; have BK384 := n2_; have HB := n3_; clear n0_ n1_ n2_ n3_; (try clear hb); (try clear hb2); (try clear hk); (try clear hi)))
   go_meet
   case rel => exact ⟨_, (true), (by first | rfl | (simp; done) | (simp [*]; done)), H', ⟨by first | omega | exact Nat.le_refl _⟩, ⟨by (with_reducible repeat (first | refine bN ?_ _ | refine bD ?_ | refine bA ?_ _)); exact BK382.out⟩, ⟨by (with_reducible repeat (first | refine bN ?_ _ | refine bD ?_ | refine bA ?_ _)); exact BK383.out⟩, ⟨by (with_reducible repeat (first | refine bN ?_ _ | refine bD ?_ | refine bA ?_ _)); exact BK384.out⟩, ⟨by repeat (first | (with_reducible first | exact HB.out | apply wA | apply wN | apply wD | refine wS ?_ GE382.out | refine wS ?_ GE383.out | refine wS ?_ GE384.out) | exact HB.out)⟩⟩
  replace c18 := Bool.eq_false_iff.mpr c18
  subst c18
  have H1 : (rev_Join.j0 k true a0_0 a0_1 a0_2 a0_3 a0_4 false l0_6 l0_7 l0_8 l0_9 a1_0 a1_1 a1_2 a1_3 a1_4 false l1_6 l1_7 l1_8 l1_9) = some (r1, r2, r3, r4, r5, r6, r7, r8, r9, r10, r11) := by rw [if_neg (show ¬ (false = true) by decide)] at H; exact H
  clear H
  have H := H1
  clear H1
  have H' := K0 H
  clear H
  have hnb40 := NB382_383.out
  have hnc40 := NB383_382.out
  have hnb41 := NB382_384.out
  have hnc41 := NB384_382.out
  obtain ⟨hcz42_0, hcz42_1, hcz42_2, hcz42_3, hcz42_4, hcz42_5, hcz42_6, hcz42_7, hcz42_8, hcz42_9⟩ := cellS10 BK382.out
  obtain ⟨hfz42_0, hfz42_1, hfz42_2, hfz42_3, hfz42_4, hfz42_5, hfz42_6, hfz42_7, hfz42_8, hfz42_9⟩ := frozS10 BK382.out
  have hnb43 := NB383_384.out
  have hnc43 := NB384_383.out
  obtain ⟨hcz44_0, hcz44_1, hcz44_2, hcz44_3, hcz44_4, hcz44_5, hcz44_6, hcz44_7, hcz44_8, hcz44_9⟩ := cellS10 BK383.out
  obtain ⟨hfz44_0, hfz44_1, hfz44_2, hfz44_3, hfz44_4, hfz44_5, hfz44_6, hfz44_7, hfz44_8, hfz44_9⟩ := frozS10 BK383.out
  go_wp2_with (first | (go_at_call 51; (with_reducible refine (key_Joins.calls a0_2 a0_3 a0_4 a1_2 a1_3 a1_4 false _ A17.out).mono ?_); rintro e w45 ⟨rfl, hb⟩; have n0_ := K0 (bB (g := gb382) (o := .cells #[.int .i64 a0_0, .int .i64 a0_1, .string a0_2, .string a0_3, .bool a0_4, .bool false, .slice A0_6 l0_6.length c0_6, .slice A0_7 l0_7.length c0_7, .slice A0_8 l0_8.length c0_8, .slice A0_9 l0_9.length c0_9] 37 (0, 0)) (by (with_reducible repeat (first | refine bN ?_ _ | refine bD ?_ | refine bA ?_ _)); exact BK382.out) hb); have n1_ := K0 (bB (g := gb383) (o := .cells #[.int .i64 a1_0, .int .i64 a1_1, .string a1_2, .string a1_3, .bool a1_4, .bool false, .slice A1_6 l1_6.length c1_6, .slice A1_7 l1_7.length c1_7, .slice A1_8 l1_8.length c1_8, .slice A1_9 l1_9.length c1_9] 37 (0, 0)) (by (with_reducible repeat (first | refine bN ?_ _ | refine bD ?_ | refine bA ?_ _)); exact BK383.out) hb); have n2_ := K0 (bB (g := gb384) (o := .cells #[.int .i64 0, .int .i64 0, .string (⟨#[]⟩ : ByteArray), .string (⟨#[]⟩ : ByteArray), .bool false, .bool false, .slice none 0 0, .slice none 0 0, .slice none 0 0, .slice none 0 0] 37 (0, 0)) (by (with_reducible repeat (first | refine bN ?_ _ | refine bD ?_ | refine bA ?_ _)); exact BK384.out) hb); have n3_ := K0 (below_step (by repeat (first | (with_reducible first | exact HB.out | apply wA | apply wN | apply wD | refine wS ?_ GE382.out | refine wS ?_ GE383.out | refine wS ?_ GE384.out) | exact HB.out)) hb); clear BK382; clear BK383; clear BK384; clear HB; have BK382 := n0_; have BK383 := n1_; have BK384 := n2_; have HB := n3_; clear n0_ n1_ n2_ n3_; (try clear hb); (try clear hb2); (try clear hk); (try clear hi)))
  go_meet
  case rel => exact ⟨_, (true), (by first | rfl | (simp; done) | (simp [*]; done)), H', ⟨by first | omega | exact Nat.le_refl _⟩, ⟨by (with_reducible repeat (first | refine bN ?_ _ | refine bD ?_ | refine bA ?_ _)); exact BK382.out⟩, ⟨by (with_reducible repeat (first | refine bN ?_ _ | refine bD ?_ | refine bA ?_ _)); exact BK383.out⟩, ⟨by (with_reducible repeat (first | refine bN ?_ _ | refine bD ?_ | refine bA ?_ _)); exact BK384.out⟩, ⟨by repeat (first | (with_reducible first | exact HB.out | apply wA | apply wN | apply wD | refine wS ?_ GE382.out | refine wS ?_ GE383.out | refine wS ?_ GE384.out) | exact HB.out)⟩⟩
 case rest =>
  clear HC3
  try clear c1
  try clear c2
  try clear p2
  try clear c3
  try clear c4
  try clear c7
  try clear c8
  try clear c9
  try clear c11
  try clear c12
  try clear c13
  try clear c15
  try clear c18
  try clear c20
  try clear c22
  try clear c23
  try clear c25
  try clear c32
  try clear c33
  try clear c35
  try clear c40
  try clear c41
  try clear c43
  try clear hcz10_0
  try clear hcz10_1
  try clear hcz10_2
  try clear hcz10_3
  try clear hcz10_4
  try clear hcz10_5
  try clear hcz10_6
  try clear hcz10_7
  try clear hcz10_8
  try clear hcz10_9
  try clear hcz14_0
  try clear hcz14_1
  try clear hcz14_2
  try clear hcz14_3
  try clear hcz14_4
  try clear hcz14_5
  try clear hcz14_6
  try clear hcz14_7
  try clear hcz14_8
  try clear hcz14_9
  try clear hcz16_0
  try clear hcz16_1
  try clear hcz16_2
  try clear hcz16_3
  try clear hcz16_4
  try clear hcz16_5
  try clear hcz16_6
  try clear hcz16_7
  try clear hcz16_8
  try clear hcz16_9
  try clear hcz24_0
  try clear hcz24_1
  try clear hcz24_2
  try clear hcz24_3
  try clear hcz24_4
  try clear hcz24_5
  try clear hcz24_6
  try clear hcz24_7
  try clear hcz24_8
  try clear hcz24_9
  try clear hcz26_0
  try clear hcz26_1
  try clear hcz26_2
  try clear hcz26_3
  try clear hcz26_4
  try clear hcz26_5
  try clear hcz26_6
  try clear hcz26_7
  try clear hcz26_8
  try clear hcz26_9
  try clear hcz28_0
  try clear hcz28_1
  try clear hcz28_2
  try clear hcz28_3
  try clear hcz28_4
  try clear hcz28_5
  try clear hcz28_6
  try clear hcz28_7
  try clear hcz28_8
  try clear hcz28_9
  try clear hcz30_0
  try clear hcz30_1
  try clear hcz30_2
  try clear hcz30_3
  try clear hcz30_4
  try clear hcz30_5
  try clear hcz30_6
  try clear hcz30_7
  try clear hcz30_8
  try clear hcz30_9
  try clear hcz34_0
  try clear hcz34_1
  try clear hcz34_2
  try clear hcz34_3
  try clear hcz34_4
  try clear hcz34_5
  try clear hcz34_6
  try clear hcz34_7
  try clear hcz34_8
  try clear hcz34_9
  try clear hcz36_0
  try clear hcz36_1
  try clear hcz36_2
  try clear hcz36_3
  try clear hcz36_4
  try clear hcz36_5
  try clear hcz36_6
  try clear hcz36_7
  try clear hcz36_8
  try clear hcz36_9
  try clear hcz38_0
  try clear hcz38_1
  try clear hcz38_2
  try clear hcz38_3
  try clear hcz38_4
  try clear hcz38_5
  try clear hcz38_6
  try clear hcz38_7
  try clear hcz38_8
  try clear hcz38_9
  try clear hcz42_0
  try clear hcz42_1
  try clear hcz42_2
  try clear hcz42_3
  try clear hcz42_4
  try clear hcz42_5
  try clear hcz42_6
  try clear hcz42_7
  try clear hcz42_8
  try clear hcz42_9
  try clear hcz44_0
  try clear hcz44_1
  try clear hcz44_2
  try clear hcz44_3
  try clear hcz44_4
  try clear hcz44_5
  try clear hcz44_6
  try clear hcz44_7
  try clear hcz44_8
  try clear hcz44_9
  try clear hfz10_0
  try clear hfz10_1
  try clear hfz10_2
  try clear hfz10_3
  try clear hfz10_4
  try clear hfz10_5
  try clear hfz10_6
  try clear hfz10_7
  try clear hfz10_8
  try clear hfz10_9
  try clear hfz14_0
  try clear hfz14_1
  try clear hfz14_2
  try clear hfz14_3
  try clear hfz14_4
  try clear hfz14_5
  try clear hfz14_6
  try clear hfz14_7
  try clear hfz14_8
  try clear hfz14_9
  try clear hfz16_0
  try clear hfz16_1
  try clear hfz16_2
  try clear hfz16_3
  try clear hfz16_4
  try clear hfz16_5
  try clear hfz16_6
  try clear hfz16_7
  try clear hfz16_8
  try clear hfz16_9
  try clear hfz24_0
  try clear hfz24_1
  try clear hfz24_2
  try clear hfz24_3
  try clear hfz24_4
  try clear hfz24_5
  try clear hfz24_6
  try clear hfz24_7
  try clear hfz24_8
  try clear hfz24_9
  try clear hfz26_0
  try clear hfz26_1
  try clear hfz26_2
  try clear hfz26_3
  try clear hfz26_4
  try clear hfz26_5
  try clear hfz26_6
  try clear hfz26_7
  try clear hfz26_8
  try clear hfz26_9
  try clear hfz28_0
  try clear hfz28_1
  try clear hfz28_2
  try clear hfz28_3
  try clear hfz28_4
  try clear hfz28_5
  try clear hfz28_6
  try clear hfz28_7
  try clear hfz28_8
  try clear hfz28_9
  try clear hfz30_0
  try clear hfz30_1
  try clear hfz30_2
  try clear hfz30_3
  try clear hfz30_4
  try clear hfz30_5
  try clear hfz30_6
  try clear hfz30_7
  try clear hfz30_8
  try clear hfz30_9
  try clear hfz34_0
  try clear hfz34_1
  try clear hfz34_2
  try clear hfz34_3
  try clear hfz34_4
  try clear hfz34_5
  try clear hfz34_6
  try clear hfz34_7
  try clear hfz34_8
  try clear hfz34_9
  try clear hfz36_0
  try clear hfz36_1
  try clear hfz36_2
  try clear hfz36_3
  try clear hfz36_4
  try clear hfz36_5
  try clear hfz36_6
  try clear hfz36_7
  try clear hfz36_8
  try clear hfz36_9
  try clear hfz38_0
  try clear hfz38_1
  try clear hfz38_2
  try clear hfz38_3
  try clear hfz38_4
  try clear hfz38_5
  try clear hfz38_6
  try clear hfz38_7
  try clear hfz38_8
  try clear hfz38_9
  try clear hfz42_0
  try clear hfz42_1
  try clear hfz42_2
  try clear hfz42_3
  try clear hfz42_4
  try clear hfz42_5
  try clear hfz42_6
  try clear hfz42_7
  try clear hfz42_8
  try clear hfz42_9
  try clear hfz44_0
  try clear hfz44_1
  try clear hfz44_2
  try clear hfz44_3
  try clear hfz44_4
  try clear hfz44_5
  try clear hfz44_6
  try clear hfz44_7
  try clear hfz44_8
  try clear hfz44_9
  obtain ⟨kq, x32_2, rfl, HA, HJ2, BK382, BK383, BK384, HB⟩ := hcut
  cases kq with
  | zero => exact absurd HA.out (by simp [rev_Join.j0])
  | succ kj2 =>
   have H := HA.out; clear HA; simp only [rev_Join.j0] at H; by_cases c46 : x32_2 = true
   ·
    subst c46; have H1 : (some (0, 0, (⟨#[]⟩ : ByteArray), (⟨#[]⟩ : ByteArray), false, false, ([] : List ByteArray), ([] : List ByteArray), ([] : List Bool), ([] : List Int), false)) = some (r1, r2, r3, r4, r5, r6, r7, r8, r9, r10, r11) := by rw [if_pos rfl] at H; exact H
    clear H; have H := H1; clear H1; simp only [Option.some.injEq, Prod.mk.injEq] at H; obtain ⟨rfl, rfl, rfl, rfl, rfl, rfl, rfl, rfl, rfl, rfl, rfl⟩ := H; have hnb47 := NB384_382.out; have hnc47 := NB382_384.out; have hnb48 := NB384_383.out; have hnc48 := NB383_384.out; obtain ⟨hcz49_0, hcz49_1, hcz49_2, hcz49_3, hcz49_4, hcz49_5, hcz49_6, hcz49_7, hcz49_8, hcz49_9⟩ := cellS10 BK384.out; obtain ⟨hfz49_0, hfz49_1, hfz49_2, hfz49_3, hfz49_4, hfz49_5, hfz49_6, hfz49_7, hfz49_8, hfz49_9⟩ := frozS10 BK384.out; go_wp2
    refine bodyPost_ret (results_ct rfl _ _ gb384 37 #[.int .i64 0, .int .i64 0, .string (⟨#[]⟩ : ByteArray), .string (⟨#[]⟩ : ByteArray), .bool false, .bool false, .slice none 0 0, .slice none 0 0, .slice none 0 0, .slice none 0 0] (0, 0) _ rfl (by (with_reducible repeat (first | refine bN ?_ _ | refine bD ?_ | refine bA ?_ _)); apply blkS10; (with_reducible repeat (first | refine bN ?_ _ | refine bD ?_ | refine bA ?_ _)); exact BK384.out) Try.underlying37 rfl (by kernel_rfl)) rfl ?_; exact ⟨_, _, _, _, by first | rfl | (simp [errW_none, errW_some] <;> rfl) | (simp [*, errW_none, errW_some] <;> rfl), by first | exact Kd.R_nil _ _ _ _ _ | exact Kd.N_nil _ _ _ _ _ | exact Kd.V_nil _ _ _ _ _ | exact Kd.Q_nil _ _ _ _ _ | exact Kd.S_nil _ _ _ _ _, by first | exact Kd.R_nil _ _ _ _ _ | exact Kd.N_nil _ _ _ _ _ | exact Kd.V_nil _ _ _ _ _ | exact Kd.Q_nil _ _ _ _ _ | exact Kd.S_nil _ _ _ _ _, by first | exact Kd.R_nil _ _ _ _ _ | exact Kd.N_nil _ _ _ _ _ | exact Kd.V_nil _ _ _ _ _ | exact Kd.Q_nil _ _ _ _ _ | exact Kd.S_nil _ _ _ _ _, by first | exact Kd.R_nil _ _ _ _ _ | exact Kd.N_nil _ _ _ _ _ | exact Kd.V_nil _ _ _ _ _ | exact Kd.Q_nil _ _ _ _ _ | exact Kd.S_nil _ _ _ _ _, by repeat (first | (with_reducible first | exact HB.out | apply wA | apply wN | apply wD | refine wS ?_ GE382.out | refine wS ?_ GE383.out | refine wS ?_ GE384.out) | exact HB.out)⟩
   replace c46 := Bool.eq_false_iff.mpr c46; subst c46; have H1 : ((rev_live.f kj2 a0_0 a0_1 a0_2 a0_3 a0_4 a0_5 l0_6 l0_7 l0_8 l0_9).bind fun t385 => ((rev_live.f kj2 a1_0 a1_1 a1_2 a1_3 a1_4 a1_5 l1_6 l1_7 l1_8 l1_9).bind fun t388 => ((api_Entry_82.f (([t385, t388] : List (List (S114))))).bind fun t394 => ((rev_laid.f kj2 (mx a0_0 a1_0) (mx a0_1 a1_1) a0_2 a1_3 a1_4 t394).bind fun bt397 => (some (bt397.1, bt397.2.1, bt397.2.2.1, bt397.2.2.2.1, bt397.2.2.2.2.1, bt397.2.2.2.2.2.1, bt397.2.2.2.2.2.2.1, bt397.2.2.2.2.2.2.2.1, bt397.2.2.2.2.2.2.2.2.1, bt397.2.2.2.2.2.2.2.2.2, true)))))) = some (r1, r2, r3, r4, r5, r6, r7, r8, r9, r10, r11) := by rw [if_neg (show ¬ (false = true) by decide)] at H; exact H
   clear H; have H := H1; clear H1; obtain ⟨ji50, hji50⟩ : ∃ j_ : Int, (mx a0_0 a1_0) = j_ := ⟨_, rfl⟩; replace H : ((rev_live.f kj2 a0_0 a0_1 a0_2 a0_3 a0_4 a0_5 l0_6 l0_7 l0_8 l0_9).bind fun t385 => ((rev_live.f kj2 a1_0 a1_1 a1_2 a1_3 a1_4 a1_5 l1_6 l1_7 l1_8 l1_9).bind fun t388 => ((api_Entry_82.f (([t385, t388] : List (List (S114))))).bind fun t394 => ((rev_laid.f kj2 (ji50) (mx a0_1 a1_1) a0_2 a1_3 a1_4 t394).bind fun bt397 => (some (bt397.1, bt397.2.1, bt397.2.2.1, bt397.2.2.2.1, bt397.2.2.2.2.1, bt397.2.2.2.2.2.1, bt397.2.2.2.2.2.2.1, bt397.2.2.2.2.2.2.2.1, bt397.2.2.2.2.2.2.2.2.1, bt397.2.2.2.2.2.2.2.2.2, true)))))) = some (r1, r2, r3, r4, r5, r6, r7, r8, r9, r10, r11) := by first | (rw [hji50] at H; exact H) | (simp only [hji50] at H ⊢; exact H)
   have hji50_ : (if a0_0 < a1_0 then a1_0 else a0_0) = ji50 := hji50; obtain ⟨ji51, hji51⟩ : ∃ j_ : Int, (mx a0_1 a1_1) = j_ := ⟨_, rfl⟩; replace H : ((rev_live.f kj2 a0_0 a0_1 a0_2 a0_3 a0_4 a0_5 l0_6 l0_7 l0_8 l0_9).bind fun t385 => ((rev_live.f kj2 a1_0 a1_1 a1_2 a1_3 a1_4 a1_5 l1_6 l1_7 l1_8 l1_9).bind fun t388 => ((api_Entry_82.f (([t385, t388] : List (List (S114))))).bind fun t394 => ((rev_laid.f kj2 (ji50) (ji51) a0_2 a1_3 a1_4 t394).bind fun bt397 => (some (bt397.1, bt397.2.1, bt397.2.2.1, bt397.2.2.2.1, bt397.2.2.2.2.1, bt397.2.2.2.2.2.1, bt397.2.2.2.2.2.2.1, bt397.2.2.2.2.2.2.2.1, bt397.2.2.2.2.2.2.2.2.1, bt397.2.2.2.2.2.2.2.2.2, true)))))) = some (r1, r2, r3, r4, r5, r6, r7, r8, r9, r10, r11) := by first | (rw [hji51] at H; exact H) | (simp only [hji51] at H ⊢; exact H)
   have hji51_ : (if a0_1 < a1_1 then a1_1 else a0_1) = ji51 := hji51; replace H := Option.bind_eq_some_iff.mp H; obtain ⟨t385, A520, H⟩ := H; replace H : ((rev_live.f kj2 a1_0 a1_1 a1_2 a1_3 a1_4 a1_5 l1_6 l1_7 l1_8 l1_9).bind fun t388 => ((api_Entry_82.f (([t385, t388] : List (List (S114))))).bind fun t394 => ((rev_laid.f kj2 (ji50) (ji51) a0_2 a1_3 a1_4 t394).bind fun bt397 => (some (bt397.1, bt397.2.1, bt397.2.2.1, bt397.2.2.2.1, bt397.2.2.2.2.1, bt397.2.2.2.2.2.1, bt397.2.2.2.2.2.2.1, bt397.2.2.2.2.2.2.2.1, bt397.2.2.2.2.2.2.2.2.1, bt397.2.2.2.2.2.2.2.2.2, true))))) = some (r1, r2, r3, r4, r5, r6, r7, r8, r9, r10, r11) := H; have A52 := K0 A520; clear A520; replace H := Option.bind_eq_some_iff.mp H; obtain ⟨t388, A530, H⟩ := H; replace H : ((api_Entry_82.f (([t385, t388] : List (List (S114))))).bind fun t394 => ((rev_laid.f kj2 (ji50) (ji51) a0_2 a1_3 a1_4 t394).bind fun bt397 => (some (bt397.1, bt397.2.1, bt397.2.2.1, bt397.2.2.2.1, bt397.2.2.2.2.1, bt397.2.2.2.2.2.1, bt397.2.2.2.2.2.2.1, bt397.2.2.2.2.2.2.2.1, bt397.2.2.2.2.2.2.2.2.1, bt397.2.2.2.2.2.2.2.2.2, true)))) = some (r1, r2, r3, r4, r5, r6, r7, r8, r9, r10, r11) := H; have A53 := K0 A530; clear A530; obtain ⟨y391, hy391⟩ : ∃ y_ : List (List (S114)), y_ = (([t385, t388] : List (List (S114)))) := ⟨_, rfl⟩; replace H : ((api_Entry_82.f y391).bind fun t394 => ((rev_laid.f kj2 (ji50) (ji51) a0_2 a1_3 a1_4 t394).bind fun bt397 => (some (bt397.1, bt397.2.1, bt397.2.2.1, bt397.2.2.2.1, bt397.2.2.2.2.1, bt397.2.2.2.2.2.1, bt397.2.2.2.2.2.2.1, bt397.2.2.2.2.2.2.2.1, bt397.2.2.2.2.2.2.2.2.1, bt397.2.2.2.2.2.2.2.2.2, true)))) = some (r1, r2, r3, r4, r5, r6, r7, r8, r9, r10, r11) := by first | (rw [hy391]; with_reducible exact H) | (have H2_ := (Option.bind_some _ _).symm.trans H; rw [hy391]; with_reducible exact H2_) | (have H2_ := (Option.bind_some _ _).symm.trans H; with_reducible exact H2_) | with_reducible exact H | (rw [hy391]; exact H) | exact H
   have Ny391 := K0 hy391; clear hy391; replace H := Option.bind_eq_some_iff.mp H; obtain ⟨t394, A540, H⟩ := H; replace H : ((rev_laid.f kj2 (ji50) (ji51) a0_2 a1_3 a1_4 t394).bind fun bt397 => (some (bt397.1, bt397.2.1, bt397.2.2.1, bt397.2.2.2.1, bt397.2.2.2.2.1, bt397.2.2.2.2.2.1, bt397.2.2.2.2.2.2.1, bt397.2.2.2.2.2.2.2.1, bt397.2.2.2.2.2.2.2.2.1, bt397.2.2.2.2.2.2.2.2.2, true))) = some (r1, r2, r3, r4, r5, r6, r7, r8, r9, r10, r11) := H; have A54 := K0 A540; clear A540; replace H := Option.bind_eq_some_iff.mp H; obtain ⟨⟨t397, t398, t399, t400, t401, t402, t403, t406, t409, t412⟩, A550, H⟩ := H; replace H : (some (t397, t398, t399, t400, t401, t402, t403, t406, t409, t412, true)) = some (r1, r2, r3, r4, r5, r6, r7, r8, r9, r10, r11) := H; have A55 := K0 A550; clear A550; simp only [Option.some.injEq, Prod.mk.injEq] at H; obtain ⟨rfl, rfl, rfl, rfl, rfl, rfl, rfl, rfl, rfl, rfl, rfl⟩ := H; have hnb56 := NB382_383.out; have hnc56 := NB383_382.out; have hnb57 := NB382_384.out; have hnc57 := NB384_382.out; obtain ⟨hcz58_0, hcz58_1, hcz58_2, hcz58_3, hcz58_4, hcz58_5, hcz58_6, hcz58_7, hcz58_8, hcz58_9⟩ := cellS10 BK382.out; obtain ⟨hfz58_0, hfz58_1, hfz58_2, hfz58_3, hfz58_4, hfz58_5, hfz58_6, hfz58_7, hfz58_8, hfz58_9⟩ := frozS10 BK382.out; have hnb59 := NB383_384.out; have hnc59 := NB384_383.out; obtain ⟨hcz60_0, hcz60_1, hcz60_2, hcz60_3, hcz60_4, hcz60_5, hcz60_6, hcz60_7, hcz60_8, hcz60_9⟩ := cellS10 BK383.out; obtain ⟨hfz60_0, hfz60_1, hfz60_2, hfz60_3, hfz60_4, hfz60_5, hfz60_6, hfz60_7, hfz60_8, hfz60_9⟩ := frozS10 BK383.out; try go_wp2_with (first | ((with_reducible refine gate_dst (N := 6) rfl ?_); refine box_event ?hg (N := 6) ?hd (cs := #[.string (⟨#[]⟩ : ByteArray), .string (⟨#[]⟩ : ByteArray), .bool false]) (t := 32) ?hr ?_; (case hd => rfl); (case hg => rfl); (case hr => first | (go_simp; done) | (go_simp; rfl)); intro gb388 hg w61 hbox hb; have n0_ := K0 (bB (g := gb382) (o := .cells #[.int .i64 a0_0, .int .i64 a0_1, .string a0_2, .string a0_3, .bool a0_4, .bool a0_5, .slice A0_6 l0_6.length c0_6, .slice A0_7 l0_7.length c0_7, .slice A0_8 l0_8.length c0_8, .slice A0_9 l0_9.length c0_9] 37 (0, 0)) (by (with_reducible repeat (first | refine bN ?_ _ | refine bD ?_ | refine bA ?_ _)); exact BK382.out) hb); have n1_ := K0 (bB (g := gb383) (o := .cells #[.int .i64 a1_0, .int .i64 a1_1, .string a1_2, .string a1_3, .bool a1_4, .bool a1_5, .slice A1_6 l1_6.length c1_6, .slice A1_7 l1_7.length c1_7, .slice A1_8 l1_8.length c1_8, .slice A1_9 l1_9.length c1_9] 37 (0, 0)) (by (with_reducible repeat (first | refine bN ?_ _ | refine bD ?_ | refine bA ?_ _)); exact BK383.out) hb); have n2_ := K0 (bB (g := gb384) (o := .cells #[.int .i64 0, .int .i64 0, .string (⟨#[]⟩ : ByteArray), .string (⟨#[]⟩ : ByteArray), .bool false, .bool false, .slice none 0 0, .slice none 0 0, .slice none 0 0, .slice none 0 0] 37 (0, 0)) (by (with_reducible repeat (first | refine bN ?_ _ | refine bD ?_ | refine bA ?_ _)); exact BK384.out) hb); have n3_ := K0 (below_step (by repeat (first | (with_reducible first | exact HB.out | apply wA | apply wN | apply wD | refine wS ?_ GE382.out | refine wS ?_ GE383.out | refine wS ?_ GE384.out) | exact HB.out)) hb); have n4_ := K0 (hbox); have n5_ := K0 ((by rw [hg]; exact (below_size (by repeat (first | (with_reducible first | exact HB.out | apply wA | apply wN | apply wD | refine wS ?_ GE382.out | refine wS ?_ GE383.out | refine wS ?_ GE384.out) | exact HB.out))) : w.heap.size ≤ gb388)); have n6_ := K0 ((by rw [hg]; exact (below_size (by repeat (first | (with_reducible first | exact HB.out | apply wA | apply wN | apply wD | refine wS ?_ GE382.out | refine wS ?_ GE383.out | refine wS ?_ GE384.out) | exact HB.out))) : w.heap.size ≤ gb388)); have n7_ := K0 ((by rw [hg]; exact Nat.ne_of_lt (blk_lt (g := gb382) (o := .cells #[.int .i64 a0_0, .int .i64 a0_1, .string a0_2, .string a0_3, .bool a0_4, .bool a0_5, .slice A0_6 l0_6.length c0_6, .slice A0_7 l0_7.length c0_7, .slice A0_8 l0_8.length c0_8, .slice A0_9 l0_9.length c0_9] 37 (0, 0)) (by (with_reducible repeat (first | refine bN ?_ _ | refine bD ?_ | refine bA ?_ _)); exact BK382.out)) : gb382 ≠ gb388)); have n8_ := K0 ((by rw [hg]; exact Nat.ne_of_gt (blk_lt (g := gb382) (o := .cells #[.int .i64 a0_0, .int .i64 a0_1, .string a0_2, .string a0_3, .bool a0_4, .bool a0_5, .slice A0_6 l0_6.length c0_6, .slice A0_7 l0_7.length c0_7, .slice A0_8 l0_8.length c0_8, .slice A0_9 l0_9.length c0_9] 37 (0, 0)) (by (with_reducible repeat (first | refine bN ?_ _ | refine bD ?_ | refine bA ?_ _)); exact BK382.out)) : gb388 ≠ gb382)); have n9_ := K0 ((by rw [hg]; exact Nat.ne_of_lt (blk_lt (g := gb383) (o := .cells #[.int .i64 a1_0, .int .i64 a1_1, .string a1_2, .string a1_3, .bool a1_4, .bool a1_5, .slice A1_6 l1_6.length c1_6, .slice A1_7 l1_7.length c1_7, .slice A1_8 l1_8.length c1_8, .slice A1_9 l1_9.length c1_9] 37 (0, 0)) (by (with_reducible repeat (first | refine bN ?_ _ | refine bD ?_ | refine bA ?_ _)); exact BK383.out)) : gb383 ≠ gb388)); have n10_ := K0 ((by rw [hg]; exact Nat.ne_of_gt (blk_lt (g := gb383) (o := .cells #[.int .i64 a1_0, .int .i64 a1_1, .string a1_2, .string a1_3, .bool a1_4, .bool a1_5, .slice A1_6 l1_6.length c1_6, .slice A1_7 l1_7.length c1_7, .slice A1_8 l1_8.length c1_8, .slice A1_9 l1_9.length c1_9] 37 (0, 0)) (by (with_reducible repeat (first | refine bN ?_ _ | refine bD ?_ | refine bA ?_ _)); exact BK383.out)) : gb388 ≠ gb383)); have n11_ := K0 ((by rw [hg]; exact Nat.ne_of_lt (blk_lt (g := gb384) (o := .cells #[.int .i64 0, .int .i64 0, .string (⟨#[]⟩ : ByteArray), .string (⟨#[]⟩ : ByteArray), .bool false, .bool false, .slice none 0 0, .slice none 0 0, .slice none 0 0, .slice none 0 0] 37 (0, 0)) (by (with_reducible repeat (first | refine bN ?_ _ | refine bD ?_ | refine bA ?_ _)); exact BK384.out)) : gb384 ≠ gb388)); have n12_ := K0 ((by rw [hg]; exact Nat.ne_of_gt (blk_lt (g := gb384) (o := .cells #[.int .i64 0, .int .i64 0, .string (⟨#[]⟩ : ByteArray), .string (⟨#[]⟩ : ByteArray), .bool false, .bool false, .slice none 0 0, .slice none 0 0, .slice none 0 0, .slice none 0 0] 37 (0, 0)) (by (with_reducible repeat (first | refine bN ?_ _ | refine bD ?_ | refine bA ?_ _)); exact BK384.out)) : gb388 ≠ gb384)); clear BK382; clear BK383; clear BK384; clear HB; have BK382 := n0_; have BK383 := n1_; have BK384 := n2_; have HB := n3_; have BK388 := n4_; have GW388 := n5_; have GE388 := n6_; have NB382_388 := n7_; have NB388_382 := n8_; have NB383_388 := n9_; have NB388_383 := n10_; have NB384_388 := n11_; have NB388_384 := n12_; clear n0_ n1_ n2_ n3_ n4_ n5_ n6_ n7_ n8_ n9_ n10_ n11_ n12_; clear hb hbox hg; have hnb62 := NB388_382.out; have hnc62 := NB382_388.out; have hnb63 := NB388_383.out; have hnc63 := NB383_388.out; have hnb64 := NB388_384.out; have hnc64 := NB384_388.out; obtain ⟨hcz65_0, hcz65_1, hcz65_2⟩ := cellS3 BK388.out; obtain ⟨hfz65_0, hfz65_1, hfz65_2⟩ := frozS3 BK388.out))
   have n0_ : Aside0 ((((w61.setCell ⟨gb388, 0, none⟩ (.string a0_2)).setCell ⟨gb388, 1, none⟩ (.string a1_3)).setCell ⟨gb388, 2, none⟩ (.bool a1_4)).heap[gb382]? = some (.cells #[.int .i64 a0_0, .int .i64 a0_1, .string a0_2, .string a0_3, .bool a0_4, .bool a0_5, .slice A0_6 l0_6.length c0_6, .slice A0_7 l0_7.length c0_7, .slice A0_8 l0_8.length c0_8, .slice A0_9 l0_9.length c0_9] 37 (0, 0))) := ⟨by (with_reducible repeat (first | refine bN ?_ _ | refine bD ?_ | refine bA ?_ _)); refine blk_far ?_ NB382_388.out _; (with_reducible repeat (first | refine bN ?_ _ | refine bD ?_ | refine bA ?_ _)); refine blk_far ?_ NB382_388.out _; (with_reducible repeat (first | refine bN ?_ _ | refine bD ?_ | refine bA ?_ _)); refine blk_far ?_ NB382_388.out _; (with_reducible repeat (first | refine bN ?_ _ | refine bD ?_ | refine bA ?_ _)); exact BK382.out⟩; have n1_ : Aside0 ((((w61.setCell ⟨gb388, 0, none⟩ (.string a0_2)).setCell ⟨gb388, 1, none⟩ (.string a1_3)).setCell ⟨gb388, 2, none⟩ (.bool a1_4)).heap[gb383]? = some (.cells #[.int .i64 a1_0, .int .i64 a1_1, .string a1_2, .string a1_3, .bool a1_4, .bool a1_5, .slice A1_6 l1_6.length c1_6, .slice A1_7 l1_7.length c1_7, .slice A1_8 l1_8.length c1_8, .slice A1_9 l1_9.length c1_9] 37 (0, 0))) := ⟨by (with_reducible repeat (first | refine bN ?_ _ | refine bD ?_ | refine bA ?_ _)); refine blk_far ?_ NB383_388.out _; (with_reducible repeat (first | refine bN ?_ _ | refine bD ?_ | refine bA ?_ _)); refine blk_far ?_ NB383_388.out _; (with_reducible repeat (first | refine bN ?_ _ | refine bD ?_ | refine bA ?_ _)); refine blk_far ?_ NB383_388.out _; (with_reducible repeat (first | refine bN ?_ _ | refine bD ?_ | refine bA ?_ _)); exact BK383.out⟩; have n2_ : Aside0 ((((w61.setCell ⟨gb388, 0, none⟩ (.string a0_2)).setCell ⟨gb388, 1, none⟩ (.string a1_3)).setCell ⟨gb388, 2, none⟩ (.bool a1_4)).heap[gb384]? = some (.cells #[.int .i64 0, .int .i64 0, .string (⟨#[]⟩ : ByteArray), .string (⟨#[]⟩ : ByteArray), .bool false, .bool false, .slice none 0 0, .slice none 0 0, .slice none 0 0, .slice none 0 0] 37 (0, 0))) := ⟨by (with_reducible repeat (first | refine bN ?_ _ | refine bD ?_ | refine bA ?_ _)); refine blk_far ?_ NB384_388.out _; (with_reducible repeat (first | refine bN ?_ _ | refine bD ?_ | refine bA ?_ _)); refine blk_far ?_ NB384_388.out _; (with_reducible repeat (first | refine bN ?_ _ | refine bD ?_ | refine bA ?_ _)); refine blk_far ?_ NB384_388.out _; (with_reducible repeat (first | refine bN ?_ _ | refine bD ?_ | refine bA ?_ _)); exact BK384.out⟩; have n3_ : Aside0 ((((w61.setCell ⟨gb388, 0, none⟩ (.string a0_2)).setCell ⟨gb388, 1, none⟩ (.string a1_3)).setCell ⟨gb388, 2, none⟩ (.bool a1_4)).heap[gb388]? = some (.cells #[.string a0_2, .string a1_3, .bool a1_4] 32 (0, 0))) := ⟨by (with_reducible repeat (first | refine bN ?_ _ | refine bD ?_ | refine bA ?_ _)); apply blkS3; (with_reducible repeat (first | refine bN ?_ _ | refine bD ?_ | refine bA ?_ _)); exact BK388.out⟩; have n4_ : Aside0 (Below w.heap.size w (((w61.setCell ⟨gb388, 0, none⟩ (.string a0_2)).setCell ⟨gb388, 1, none⟩ (.string a1_3)).setCell ⟨gb388, 2, none⟩ (.bool a1_4))) := ⟨by repeat (first | (with_reducible first | exact HB.out | apply wA | apply wN | apply wD | refine wS ?_ GE382.out | refine wS ?_ GE383.out | refine wS ?_ GE384.out | refine wS ?_ GE388.out) | exact HB.out)⟩; (try clear BK382)
   (try clear BK383)
   (try clear BK384)
   (try clear BK388)
   (try clear HB)
   generalize (((w61.setCell ⟨gb388, 0, none⟩ (.string a0_2)).setCell ⟨gb388, 1, none⟩ (.string a1_3)).setCell ⟨gb388, 2, none⟩ (.bool a1_4)) = w66 at n0_ n1_ n2_ n3_ n4_ ⊢; have BK382 := n0_; have BK383 := n1_; have BK384 := n2_; have BK388 := n3_; have HB := n4_; clear n0_ n1_ n2_ n3_ n4_; have n0_ := K0 (bD BK382.out); have n1_ := K0 (bD BK383.out); have n2_ := K0 (bD BK384.out); have n3_ := K0 (bD BK388.out); have n4_ := K0 (wD HB.out); clear BK382 BK383 BK384 BK388 HB; have BK382 := n0_; have BK383 := n1_; have BK384 := n2_; have BK388 := n3_; have HB := n4_; clear n0_ n1_ n2_ n3_ n4_; refine start_ (n := 20) (S := fun w' => w'.cell? ⟨gb382, 0, none⟩ = some (.int .i64 a0_0) ∧ w'.cell? ⟨gb382, 1, none⟩ = some (.int .i64 a0_1) ∧ w'.cell? ⟨gb382, 2, none⟩ = some (.string a0_2) ∧ w'.cell? ⟨gb382, 3, none⟩ = some (.string a0_3) ∧ w'.cell? ⟨gb382, 4, none⟩ = some (.bool a0_4) ∧ w'.cell? ⟨gb382, 5, none⟩ = some (.bool a0_5) ∧ w'.cell? ⟨gb382, 6, none⟩ = some (.slice A0_6 l0_6.length c0_6) ∧ w'.cell? ⟨gb382, 7, none⟩ = some (.slice A0_7 l0_7.length c0_7) ∧ w'.cell? ⟨gb382, 8, none⟩ = some (.slice A0_8 l0_8.length c0_8) ∧ w'.cell? ⟨gb382, 9, none⟩ = some (.slice A0_9 l0_9.length c0_9) ∧ w'.cell? ⟨gb383, 0, none⟩ = some (.int .i64 a1_0) ∧ w'.cell? ⟨gb383, 1, none⟩ = some (.int .i64 a1_1) ∧ w'.cell? ⟨gb383, 2, none⟩ = some (.string a1_2) ∧ w'.cell? ⟨gb383, 3, none⟩ = some (.string a1_3) ∧ w'.cell? ⟨gb383, 4, none⟩ = some (.bool a1_4) ∧ w'.cell? ⟨gb383, 5, none⟩ = some (.bool a1_5) ∧ w'.cell? ⟨gb383, 6, none⟩ = some (.slice A1_6 l1_6.length c1_6) ∧ w'.cell? ⟨gb383, 7, none⟩ = some (.slice A1_7 l1_7.length c1_7) ∧ w'.cell? ⟨gb383, 8, none⟩ = some (.slice A1_8 l1_8.length c1_8) ∧ w'.cell? ⟨gb383, 9, none⟩ = some (.slice A1_9 l1_9.length c1_9) ∧ w'.cell? ⟨gb388, 0, none⟩ = some (.string a0_2) ∧ w'.cell? ⟨gb388, 1, none⟩ = some (.string a1_3) ∧ w'.cell? ⟨gb388, 2, none⟩ = some (.bool a1_4)) (ds := []) q15_0 (by kernel_rfl) rfl rfl ⟨(bC BK382.out 0).trans rfl, (bC BK382.out 1).trans rfl, (bC BK382.out 2).trans rfl, (bC BK382.out 3).trans rfl, (bC BK382.out 4).trans rfl, (bC BK382.out 5).trans rfl, (bC BK382.out 6).trans rfl, (bC BK382.out 7).trans rfl, (bC BK382.out 8).trans rfl, (bC BK382.out 9).trans rfl, (bC BK383.out 0).trans rfl, (bC BK383.out 1).trans rfl, (bC BK383.out 2).trans rfl, (bC BK383.out 3).trans rfl, (bC BK383.out 4).trans rfl, (bC BK383.out 5).trans rfl, (bC BK383.out 6).trans rfl, (bC BK383.out 7).trans rfl, (bC BK383.out 8).trans rfl, (bC BK383.out 9).trans rfl, (bC BK388.out 0).trans rfl, (bC BK388.out 1).trans rfl, (bC BK388.out 2).trans rfl⟩ (fun hHeld => ?_); refine with_tabW rev_Join.tab4 rev_Join.bits4 (fun HT_ HW_ => ?_)
   generalize w66.drew = w67 at BK382 BK383 BK384 BK388 HB hHeld ⊢; refine pure_ (i := 0) (N := some 44) (v := ?_) (a' := ?_) q15_1 rfl rfl (any_of HT_.out (by kernel_rfl)) (fun _ _ _ h => h) (Or.inl ⟨by rfl, ?_⟩) ?_ ?_; rotate_left
   · intro w'; go_simp; with_reducible rfl
   rotate_left
   · simp only [Act.put, s1, s2, s3, i64_w, i32_w]; rfl
   refine pure_ (i := 2) (N := some 46) (v := ?_) (a' := ?_) q15_2 rfl rfl (any_of HT_.out (by kernel_rfl)) (fun _ _ _ h => h) (Or.inl ⟨by rfl, ?_⟩) ?_ ?_; rotate_left
   · intro w'; go_simp; with_reducible rfl
   rotate_left
   · simp only [Act.put, s1, s2, s3, i64_w, i32_w]; rfl
   refine pure_ (i := 5) (N := some 49) (v := ?_) (a' := ?_) q15_3 rfl rfl (any_of HT_.out (by kernel_rfl)) (fun _ _ _ h => h) (Or.inl ⟨by rfl, ?_⟩) ?_ ?_; rotate_left
   · intro w'; go_simp; with_reducible rfl
   rotate_left
   · simp only [Act.put, s1, s2, s3, i64_w, i32_w]; rfl
   refine pure_ (i := 7) (N := some 51) (v := ?_) (a' := ?_) q15_4 rfl rfl (any_of HT_.out (by kernel_rfl)) (fun _ _ _ h => h) (Or.inl ⟨by rfl, ?_⟩) ?_ ?_; rotate_left
   · intro w'; go_simp; with_reducible rfl
   rotate_left
   · simp only [Act.put, s1, s2, s3, i64_w, i32_w]; rfl
   refine take_ (i := 1) (N := some 45) (v := ?_) (a' := ?_) q15_5 rfl rfl (take_ofW HT_.out HW_.out (by kernel_rfl)) (fun _ _ _ h => h) (Or.inl ⟨by rfl, ?_⟩) hHeld ?_ ?_; rotate_left
   · rintro w' ⟨s0, s1, s2, s3, s4, s5, s6, s7, s8, s9, s10, s11, s12, s13, s14, s15, s16, s17, s18, s19, s20, s21, s22⟩; go_simp; with_reducible rfl
   rotate_left
   · simp only [Act.put, s1, s2, s3, i64_w, i32_w]; rfl
   refine take_ (i := 3) (N := some 47) (v := ?_) (a' := ?_) q15_6 rfl rfl (take_ofW HT_.out HW_.out (by kernel_rfl)) (fun _ _ _ h => h) (Or.inl ⟨by rfl, ?_⟩) hHeld ?_ ?_; rotate_left
   · rintro w' ⟨s0, s1, s2, s3, s4, s5, s6, s7, s8, s9, s10, s11, s12, s13, s14, s15, s16, s17, s18, s19, s20, s21, s22⟩; go_simp; with_reducible rfl
   rotate_left
   · simp only [Act.put, s1, s2, s3, i64_w, i32_w]; rfl
   refine pure_ (i := 4) (N := some 48) (v := ?_) (a' := ?_) q15_7 rfl rfl (any_of HT_.out (by kernel_rfl)) (fun _ _ _ h => h) (Or.inl ⟨by rfl, ?_⟩) ?_ ?_; rotate_left
   · intro w'; go_simp; with_reducible rfl
   rotate_left
   · simp only [Act.put, s1, s2, s3, i64_w, i32_w]; rfl
   refine take_ (i := 6) (N := some 50) (v := ?_) (a' := ?_) q15_8 rfl rfl (take_ofW HT_.out HW_.out (by kernel_rfl)) (fun _ _ _ h => h) (Or.inl ⟨by rfl, ?_⟩) hHeld ?_ ?_; rotate_left
   · rintro w' ⟨s0, s1, s2, s3, s4, s5, s6, s7, s8, s9, s10, s11, s12, s13, s14, s15, s16, s17, s18, s19, s20, s21, s22⟩; go_simp; with_reducible rfl
   rotate_left
   · simp only [Act.put, s1, s2, s3, i64_w, i32_w]; rfl
   refine take_ (i := 8) (N := some 52) (v := ?_) (a' := ?_) q15_9 rfl rfl (take_ofW HT_.out HW_.out (by kernel_rfl)) (fun _ _ _ h => h) (Or.inl ⟨by rfl, ?_⟩) hHeld ?_ ?_; rotate_left
   · rintro w' ⟨s0, s1, s2, s3, s4, s5, s6, s7, s8, s9, s10, s11, s12, s13, s14, s15, s16, s17, s18, s19, s20, s21, s22⟩; go_simp; with_reducible rfl
   rotate_left
   · simp only [Act.put, s1, s2, s3, i64_w, i32_w]; rfl
   refine pure_ (i := 9) (N := some 53) (v := ?_) (a' := ?_) q15_10 rfl rfl (any_of HT_.out (by kernel_rfl)) (fun _ _ _ h => h) (Or.inl ⟨by rfl, ?_⟩) ?_ ?_; rotate_left
   · intro w'; go_simp; with_reducible rfl
   rotate_left
   · simp only [Act.put, s1, s2, s3, i64_w, i32_w]; rfl
   refine take_ (i := 10) (N := some 54) (v := ?_) (a' := ?_) q15_11 rfl rfl (take_ofW HT_.out HW_.out (by kernel_rfl)) (fun _ _ _ h => h) (Or.inl ⟨by rfl, ?_⟩) hHeld ?_ ?_; rotate_left
   · rintro w' ⟨s0, s1, s2, s3, s4, s5, s6, s7, s8, s9, s10, s11, s12, s13, s14, s15, s16, s17, s18, s19, s20, s21, s22⟩; go_simp; with_reducible rfl
   rotate_left
   · simp only [Act.put, s1, s2, s3, i64_w, i32_w]; rfl
   refine take_ (i := 11) (N := some 55) (v := ?_) (a' := ?_) q15_12 rfl rfl (take_ofW HT_.out HW_.out (by kernel_rfl)) (fun _ _ _ h => h) (Or.inl ⟨by rfl, ?_⟩) hHeld ?_ ?_; rotate_left
   · rintro w' ⟨s0, s1, s2, s3, s4, s5, s6, s7, s8, s9, s10, s11, s12, s13, s14, s15, s16, s17, s18, s19, s20, s21, s22⟩; go_simp; with_reducible rfl
   rotate_left
   · simp only [Act.put, s1, s2, s3, i64_w, i32_w]; rfl
   refine take_ (i := 13) (N := some 57) (v := ?_) (a' := ?_) q15_13 rfl rfl (take_ofW HT_.out HW_.out (by kernel_rfl)) (fun _ _ _ h => h) (Or.inl ⟨by rfl, ?_⟩) hHeld ?_ ?_; rotate_left
   · rintro w' ⟨s0, s1, s2, s3, s4, s5, s6, s7, s8, s9, s10, s11, s12, s13, s14, s15, s16, s17, s18, s19, s20, s21, s22⟩; go_simp; with_reducible rfl
   rotate_left
   · simp only [Act.put, s1, s2, s3, i64_w, i32_w]; rfl
   refine one_ (i := 12) (N := some 56) q15_14 rfl rfl (one_of HT_.out (by kernel_rfl)) (by decide) (fun K hK => ?_); refine goes_ Try.func79 (by kernel_rfl) rfl #[.agg #[.int .i64 a0_0, .int .i64 a0_1, .string a0_2, .string a0_3, .bool a0_4, .bool a0_5, .slice A0_6 l0_6.length c0_6, .slice A0_7 l0_7.length c0_7, .slice A0_8 l0_8.length c0_8, .slice A0_9 l0_9.length c0_9]] (by rfl) rfl rfl (by (try simp only [List.map_toArray, List.map_cons, List.map_nil]); first | done | rfl | (simp only [lD, lT]; rfl)) ?_; with_reducible refine (rev_live.calls kj2 a0_0 a0_1 a0_2 a0_3 a0_4 a0_5 _ _ l0_6 _ _ l0_7 _ _ l0_8 _ _ l0_9 t385 _ ?side1 ?side2 ?side3 ?side4 ?side5 ?side6 ?side7 ?side8 A52.out).mono ?_
   (case side1 => repeat (first | exact (Kd.C_below HR0_6.out HB.out) | (with_reducible refine Kd.C_alloc ?_ _) | (with_reducible refine Kd.C_drewN ?_ _) | (with_reducible refine Kd.C_drew ?_)))
   (case side2 => exact HC0_6.out)
   (case side3 => repeat (first | exact (Kd.C_below HR0_7.out HB.out) | (with_reducible refine Kd.C_alloc ?_ _) | (with_reducible refine Kd.C_drewN ?_ _) | (with_reducible refine Kd.C_drew ?_)))
   (case side4 => exact HC0_7.out)
   (case side5 => repeat (first | exact (Kd.C_below HR0_8.out HB.out) | (with_reducible refine Kd.C_alloc ?_ _) | (with_reducible refine Kd.C_drewN ?_ _) | (with_reducible refine Kd.C_drew ?_)))
   (case side6 => exact HC0_8.out)
   (case side7 => repeat (first | exact (Kd.C_below HR0_9.out HB.out) | (with_reducible refine Kd.C_alloc ?_ _) | (with_reducible refine Kd.C_drewN ?_ _) | (with_reducible refine Kd.C_drew ?_)))
   (case side8 => exact HC0_9.out)
   rintro e w68 ⟨v386, rfl, ho0, hb⟩; refine ⟨_, rfl, ?_⟩; have n0_ := K0 (Kd.R_lower ho0 (below_size (by repeat (first | (with_reducible first | exact HB.out | apply wA | apply wN | apply wD | refine wS ?_ GE382.out | refine wS ?_ GE383.out | refine wS ?_ GE384.out | refine wS ?_ GE388.out) | exact HB.out)))); have n1_ := K0 (bB (g := gb382) (o := .cells #[.int .i64 a0_0, .int .i64 a0_1, .string a0_2, .string a0_3, .bool a0_4, .bool a0_5, .slice A0_6 l0_6.length c0_6, .slice A0_7 l0_7.length c0_7, .slice A0_8 l0_8.length c0_8, .slice A0_9 l0_9.length c0_9] 37 (0, 0)) (by (with_reducible repeat (first | refine bN ?_ _ | refine bD ?_ | refine bA ?_ _)); exact BK382.out) hb); have n2_ := K0 (bB (g := gb383) (o := .cells #[.int .i64 a1_0, .int .i64 a1_1, .string a1_2, .string a1_3, .bool a1_4, .bool a1_5, .slice A1_6 l1_6.length c1_6, .slice A1_7 l1_7.length c1_7, .slice A1_8 l1_8.length c1_8, .slice A1_9 l1_9.length c1_9] 37 (0, 0)) (by (with_reducible repeat (first | refine bN ?_ _ | refine bD ?_ | refine bA ?_ _)); exact BK383.out) hb); have n3_ := K0 (bB (g := gb384) (o := .cells #[.int .i64 0, .int .i64 0, .string (⟨#[]⟩ : ByteArray), .string (⟨#[]⟩ : ByteArray), .bool false, .bool false, .slice none 0 0, .slice none 0 0, .slice none 0 0, .slice none 0 0] 37 (0, 0)) (by (with_reducible repeat (first | refine bN ?_ _ | refine bD ?_ | refine bA ?_ _)); exact BK384.out) hb); have n4_ := K0 (bB (g := gb388) (o := .cells #[.string a0_2, .string a1_3, .bool a1_4] 32 (0, 0)) (by (with_reducible repeat (first | refine bN ?_ _ | refine bD ?_ | refine bA ?_ _)); exact BK388.out) hb); have n5_ := K0 (below_step (by repeat (first | (with_reducible first | exact HB.out | apply wA | apply wN | apply wD | refine wS ?_ GE382.out | refine wS ?_ GE383.out | refine wS ?_ GE384.out | refine wS ?_ GE388.out) | exact HB.out)) hb); clear BK382 BK383 BK384 BK388 HB; have HO387 := n0_; have BK382 := n1_; have BK383 := n2_; have BK384 := n3_; have BK388 := n4_; have HB := n5_; clear n0_ n1_ n2_ n3_ n4_ n5_; (try clear hb)
   (try clear hb2)
   (try clear hk)
   (try clear hi)
   (try clear ho0)
   refine hK.out _ _ ⟨(bC BK382.out 0).trans rfl, (bC BK382.out 1).trans rfl, (bC BK382.out 2).trans rfl, (bC BK382.out 3).trans rfl, (bC BK382.out 4).trans rfl, (bC BK382.out 5).trans rfl, (bC BK382.out 6).trans rfl, (bC BK382.out 7).trans rfl, (bC BK382.out 8).trans rfl, (bC BK382.out 9).trans rfl, (bC BK383.out 0).trans rfl, (bC BK383.out 1).trans rfl, (bC BK383.out 2).trans rfl, (bC BK383.out 3).trans rfl, (bC BK383.out 4).trans rfl, (bC BK383.out 5).trans rfl, (bC BK383.out 6).trans rfl, (bC BK383.out 7).trans rfl, (bC BK383.out 8).trans rfl, (bC BK383.out 9).trans rfl, (bC BK388.out 0).trans rfl, (bC BK388.out 1).trans rfl, (bC BK388.out 2).trans rfl⟩ (fun hHeld => ?_); clear hK K; refine norm_ (a' := ?_) ?_ ?_; rotate_left
   · show Act.put _ (some 56) _ = _; simp only [Act.put, s1, s2, s3, i64_w, i32_w]; rfl
   refine one_ (i := 14) (N := some 58) q15_15 rfl rfl (one_of HT_.out (by kernel_rfl)) (by decide) (fun K hK => ?_); refine goes_ Try.func79 (by kernel_rfl) rfl #[.agg #[.int .i64 a1_0, .int .i64 a1_1, .string a1_2, .string a1_3, .bool a1_4, .bool a1_5, .slice A1_6 l1_6.length c1_6, .slice A1_7 l1_7.length c1_7, .slice A1_8 l1_8.length c1_8, .slice A1_9 l1_9.length c1_9]] (by rfl) rfl rfl (by (try simp only [List.map_toArray, List.map_cons, List.map_nil]); first | done | rfl | (simp only [lD, lT]; rfl)) ?_; with_reducible refine (rev_live.calls kj2 a1_0 a1_1 a1_2 a1_3 a1_4 a1_5 _ _ l1_6 _ _ l1_7 _ _ l1_8 _ _ l1_9 t388 _ ?side1 ?side2 ?side3 ?side4 ?side5 ?side6 ?side7 ?side8 A53.out).mono ?_
   (case side1 => repeat (first | exact (Kd.C_below HR1_6.out HB.out) | (with_reducible refine Kd.C_alloc ?_ _) | (with_reducible refine Kd.C_drewN ?_ _) | (with_reducible refine Kd.C_drew ?_)))
   (case side2 => exact HC1_6.out)
   (case side3 => repeat (first | exact (Kd.C_below HR1_7.out HB.out) | (with_reducible refine Kd.C_alloc ?_ _) | (with_reducible refine Kd.C_drewN ?_ _) | (with_reducible refine Kd.C_drew ?_)))
   (case side4 => exact HC1_7.out)
   (case side5 => repeat (first | exact (Kd.C_below HR1_8.out HB.out) | (with_reducible refine Kd.C_alloc ?_ _) | (with_reducible refine Kd.C_drewN ?_ _) | (with_reducible refine Kd.C_drew ?_)))
   (case side6 => exact HC1_8.out)
   (case side7 => repeat (first | exact (Kd.C_below HR1_9.out HB.out) | (with_reducible refine Kd.C_alloc ?_ _) | (with_reducible refine Kd.C_drewN ?_ _) | (with_reducible refine Kd.C_drew ?_)))
   (case side8 => exact HC1_9.out)
   rintro e w69 ⟨v389, rfl, ho0, hb⟩; refine ⟨_, rfl, ?_⟩; have n0_ := K0 (Kd.R_elder' (by (with_reducible repeat (first | apply rA | apply rN | apply rD)); exact HO387.out) (Kd.R_base ho0) hb); have n1_ := K0 (Kd.R_lower (Kd.R_new' ho0 (Kd.R_lt (by (with_reducible repeat (first | apply rA | apply rN | apply rD)); exact HO387.out))) (below_size (by repeat (first | (with_reducible first | exact HB.out | apply wA | apply wN | apply wD | refine wS ?_ GE382.out | refine wS ?_ GE383.out | refine wS ?_ GE384.out | refine wS ?_ GE388.out) | exact HB.out)))); have n2_ := K0 (bB (g := gb382) (o := .cells #[.int .i64 a0_0, .int .i64 a0_1, .string a0_2, .string a0_3, .bool a0_4, .bool a0_5, .slice A0_6 l0_6.length c0_6, .slice A0_7 l0_7.length c0_7, .slice A0_8 l0_8.length c0_8, .slice A0_9 l0_9.length c0_9] 37 (0, 0)) (by (with_reducible repeat (first | refine bN ?_ _ | refine bD ?_ | refine bA ?_ _)); exact BK382.out) hb); have n3_ := K0 (bB (g := gb383) (o := .cells #[.int .i64 a1_0, .int .i64 a1_1, .string a1_2, .string a1_3, .bool a1_4, .bool a1_5, .slice A1_6 l1_6.length c1_6, .slice A1_7 l1_7.length c1_7, .slice A1_8 l1_8.length c1_8, .slice A1_9 l1_9.length c1_9] 37 (0, 0)) (by (with_reducible repeat (first | refine bN ?_ _ | refine bD ?_ | refine bA ?_ _)); exact BK383.out) hb); have n4_ := K0 (bB (g := gb384) (o := .cells #[.int .i64 0, .int .i64 0, .string (⟨#[]⟩ : ByteArray), .string (⟨#[]⟩ : ByteArray), .bool false, .bool false, .slice none 0 0, .slice none 0 0, .slice none 0 0, .slice none 0 0] 37 (0, 0)) (by (with_reducible repeat (first | refine bN ?_ _ | refine bD ?_ | refine bA ?_ _)); exact BK384.out) hb); have n5_ := K0 (bB (g := gb388) (o := .cells #[.string a0_2, .string a1_3, .bool a1_4] 32 (0, 0)) (by (with_reducible repeat (first | refine bN ?_ _ | refine bD ?_ | refine bA ?_ _)); exact BK388.out) hb); have n6_ := K0 (below_step (by repeat (first | (with_reducible first | exact HB.out | apply wA | apply wN | apply wD | refine wS ?_ GE382.out | refine wS ?_ GE383.out | refine wS ?_ GE384.out | refine wS ?_ GE388.out) | exact HB.out)) hb); clear HO387 BK382 BK383 BK384 BK388 HB; have HO387 := n0_; have HO390 := n1_; have BK382 := n2_; have BK383 := n3_; have BK384 := n4_; have BK388 := n5_; have HB := n6_; clear n0_ n1_ n2_ n3_ n4_ n5_ n6_; (try clear hb)
   (try clear hb2)
   (try clear hk)
   (try clear hi)
   (try clear ho0)
   obtain ⟨Ao70, co70, eo70⟩ := Kd.R_slice HO387.out; (first | subst eo70 | (injection eo70 with f1_ f2_ f3_; have f4_ := f1_.symm; have f5_ := f3_.symm; clear f1_ f2_ f3_; subst f4_; subst f5_))
   obtain ⟨Ao71, co71, eo71⟩ := Kd.R_slice HO390.out; (first | subst eo71 | (injection eo71 with f1_ f2_ f3_; have f4_ := f1_.symm; have f5_ := f3_.symm; clear f1_ f2_ f3_; subst f4_; subst f5_))
   refine hK.out _ _ ⟨(bC BK382.out 0).trans rfl, (bC BK382.out 1).trans rfl, (bC BK382.out 2).trans rfl, (bC BK382.out 3).trans rfl, (bC BK382.out 4).trans rfl, (bC BK382.out 5).trans rfl, (bC BK382.out 6).trans rfl, (bC BK382.out 7).trans rfl, (bC BK382.out 8).trans rfl, (bC BK382.out 9).trans rfl, (bC BK383.out 0).trans rfl, (bC BK383.out 1).trans rfl, (bC BK383.out 2).trans rfl, (bC BK383.out 3).trans rfl, (bC BK383.out 4).trans rfl, (bC BK383.out 5).trans rfl, (bC BK383.out 6).trans rfl, (bC BK383.out 7).trans rfl, (bC BK383.out 8).trans rfl, (bC BK383.out 9).trans rfl, (bC BK388.out 0).trans rfl, (bC BK388.out 1).trans rfl, (bC BK388.out 2).trans rfl⟩ (fun hHeld => ?_); clear hK K; refine norm_ (a' := ?_) ?_ ?_; rotate_left
   · show Act.put _ (some 58) _ = _; simp only [Act.put, s1, s2, s3, i64_w, i32_w]; rfl
   refine one_ (i := 15) (N := some 59) q15_16 rfl rfl (one_of HT_.out (by kernel_rfl)) (by decide) (fun K hK => ?_); refine Kd.N_lit_step (Kd.slice 114 k114) _ 42 ?hg (N' := 59) ?hd (xs := ([t385, t388] : List (List (S114)))) (inner := [.slice Ao70 t385.length co70, .slice Ao71 t388.length co71]) (ok := (fun k_ => k_ ≠ gb382 ∧ k_ ≠ gb383 ∧ k_ ≠ gb384 ∧ k_ ≠ gb388)) (okp := (fun k_ => k_ ≠ gb382 ∧ k_ ≠ gb383 ∧ k_ ≠ gb384 ∧ k_ ≠ gb388)) ?hr ?hp (fun _ hk => hk) ((show ∀ k_, w69.heap.size ≤ k_ → (fun k_ => k_ ≠ gb382 ∧ k_ ≠ gb383 ∧ k_ ≠ gb384 ∧ k_ ≠ gb388) k_ from fun k_ hk => ⟨Kd.freshB (g := gb382) (o := .cells #[.int .i64 a0_0, .int .i64 a0_1, .string a0_2, .string a0_3, .bool a0_4, .bool a0_5, .slice A0_6 l0_6.length c0_6, .slice A0_7 l0_7.length c0_7, .slice A0_8 l0_8.length c0_8, .slice A0_9 l0_9.length c0_9] 37 (0, 0)) (by (with_reducible repeat (first | refine bN ?_ _ | refine bD ?_ | refine bA ?_ _)); exact BK382.out) k_ hk, Kd.freshB (g := gb383) (o := .cells #[.int .i64 a1_0, .int .i64 a1_1, .string a1_2, .string a1_3, .bool a1_4, .bool a1_5, .slice A1_6 l1_6.length c1_6, .slice A1_7 l1_7.length c1_7, .slice A1_8 l1_8.length c1_8, .slice A1_9 l1_9.length c1_9] 37 (0, 0)) (by (with_reducible repeat (first | refine bN ?_ _ | refine bD ?_ | refine bA ?_ _)); exact BK383.out) k_ hk, Kd.freshB (g := gb384) (o := .cells #[.int .i64 0, .int .i64 0, .string (⟨#[]⟩ : ByteArray), .string (⟨#[]⟩ : ByteArray), .bool false, .bool false, .slice none 0 0, .slice none 0 0, .slice none 0 0, .slice none 0 0] 37 (0, 0)) (by (with_reducible repeat (first | refine bN ?_ _ | refine bD ?_ | refine bA ?_ _)); exact BK384.out) k_ hk, Kd.freshB (g := gb388) (o := .cells #[.string a0_2, .string a1_3, .bool a1_4] 32 (0, 0)) (by (with_reducible repeat (first | refine bN ?_ _ | refine bD ?_ | refine bA ?_ _)); exact BK388.out) k_ hk⟩) _ (Nat.le_refl _)) (Below.refl _ _) (Nat.le_refl _) (by simp) ?_; (case hd => rfl); (case hg => rfl); (case hr => first | (go_simp; done) | (go_simp; rfl)); (case hp => exact (Reps.one (show Kd.FK (Kd.slice 114 k114) _ _ t385 [.slice Ao70 t385.length co70] from (Kd.FK_slice_mk (Kd.R_reads' (Kd.R_mono (ok' := (fun k_ => k_ ≠ gb382 ∧ k_ ≠ gb383 ∧ k_ ≠ gb384 ∧ k_ ≠ gb388)) (Kd.R_types (Kd.R_types (Kd.R_types (Kd.R_types (HO387.out) BK382.out (by decide)) BK383.out (by decide)) BK384.out (by decide)) BK388.out (by decide)) (fun k_ hk => ⟨hk.1.1.1.2, ⟨hk.1.1.2, ⟨hk.1.2, hk.2⟩⟩⟩))).2.1 (Kd.R_F (Kd.R_mono (ok' := (fun k_ => k_ ≠ gb382 ∧ k_ ≠ gb383 ∧ k_ ≠ gb384 ∧ k_ ≠ gb388)) (Kd.R_types (Kd.R_types (Kd.R_types (Kd.R_types (HO387.out) BK382.out (by decide)) BK383.out (by decide)) BK384.out (by decide)) BK388.out (by decide)) (fun k_ hk => ⟨hk.1.1.1.2, ⟨hk.1.1.2, ⟨hk.1.2, hk.2⟩⟩⟩))))) (Reps.one (show Kd.FK (Kd.slice 114 k114) _ _ t388 [.slice Ao71 t388.length co71] from (Kd.FK_slice_mk (Kd.R_reads' (Kd.R_mono (ok' := (fun k_ => k_ ≠ gb382 ∧ k_ ≠ gb383 ∧ k_ ≠ gb384 ∧ k_ ≠ gb388)) (Kd.R_types (Kd.R_types (Kd.R_types (Kd.R_types (HO390.out) BK382.out (by decide)) BK383.out (by decide)) BK384.out (by decide)) BK388.out (by decide)) (fun k_ hk => ⟨hk.1.1.1.2, ⟨hk.1.1.2, ⟨hk.1.2, hk.2⟩⟩⟩))).2.1 (Kd.R_F (Kd.R_mono (ok' := (fun k_ => k_ ≠ gb382 ∧ k_ ≠ gb383 ∧ k_ ≠ gb384 ∧ k_ ≠ gb388)) (Kd.R_types (Kd.R_types (Kd.R_types (Kd.R_types (HO390.out) BK382.out (by decide)) BK383.out (by decide)) BK384.out (by decide)) BK388.out (by decide)) (fun k_ hk => ⟨hk.1.1.1.2, ⟨hk.1.1.2, ⟨hk.1.2, hk.2⟩⟩⟩))))) (Reps.none _ _))))
   intro v392 w72 ho73 hb hg_ hnew_; clear hg_ hnew_; (first | rw [← Ny391.out] at ho73 | (simp only [Int.reduceToNat] at ho73; rw [← Ny391.out] at ho73))
   have n0_ := K0 (Kd.N_lower ho73 (below_size (by repeat (first | (with_reducible first | exact HB.out | apply wA | apply wN | apply wD | refine wS ?_ GE382.out | refine wS ?_ GE383.out | refine wS ?_ GE384.out | refine wS ?_ GE388.out) | exact HB.out)))); have n1_ := K0 (bB (g := gb382) (o := .cells #[.int .i64 a0_0, .int .i64 a0_1, .string a0_2, .string a0_3, .bool a0_4, .bool a0_5, .slice A0_6 l0_6.length c0_6, .slice A0_7 l0_7.length c0_7, .slice A0_8 l0_8.length c0_8, .slice A0_9 l0_9.length c0_9] 37 (0, 0)) (by (with_reducible repeat (first | refine bN ?_ _ | refine bD ?_ | refine bA ?_ _)); exact BK382.out) hb); have n2_ := K0 (bB (g := gb383) (o := .cells #[.int .i64 a1_0, .int .i64 a1_1, .string a1_2, .string a1_3, .bool a1_4, .bool a1_5, .slice A1_6 l1_6.length c1_6, .slice A1_7 l1_7.length c1_7, .slice A1_8 l1_8.length c1_8, .slice A1_9 l1_9.length c1_9] 37 (0, 0)) (by (with_reducible repeat (first | refine bN ?_ _ | refine bD ?_ | refine bA ?_ _)); exact BK383.out) hb); have n3_ := K0 (bB (g := gb384) (o := .cells #[.int .i64 0, .int .i64 0, .string (⟨#[]⟩ : ByteArray), .string (⟨#[]⟩ : ByteArray), .bool false, .bool false, .slice none 0 0, .slice none 0 0, .slice none 0 0, .slice none 0 0] 37 (0, 0)) (by (with_reducible repeat (first | refine bN ?_ _ | refine bD ?_ | refine bA ?_ _)); exact BK384.out) hb); have n4_ := K0 (bB (g := gb388) (o := .cells #[.string a0_2, .string a1_3, .bool a1_4] 32 (0, 0)) (by (with_reducible repeat (first | refine bN ?_ _ | refine bD ?_ | refine bA ?_ _)); exact BK388.out) hb); have n5_ := K0 (below_step (by repeat (first | (with_reducible first | exact HB.out | apply wA | apply wN | apply wD | refine wS ?_ GE382.out | refine wS ?_ GE383.out | refine wS ?_ GE384.out | refine wS ?_ GE388.out) | exact HB.out)) hb); clear BK382 BK383 BK384 BK388 HB HO387 HO390; have HO393 := n0_; have BK382 := n1_; have BK383 := n2_; have BK384 := n3_; have BK388 := n4_; have HB := n5_; clear n0_ n1_ n2_ n3_ n4_ n5_ hb ho73; obtain ⟨Ao74, co74, eo74⟩ := Kd.N_slice HO393.out; (first | subst eo74 | (injection eo74 with f1_ f2_ f3_; have f4_ := f1_.symm; have f5_ := f3_.symm; clear f1_ f2_ f3_; subst f4_; subst f5_))
   refine hK.out _ _ ⟨(bC BK382.out 0).trans rfl, (bC BK382.out 1).trans rfl, (bC BK382.out 2).trans rfl, (bC BK382.out 3).trans rfl, (bC BK382.out 4).trans rfl, (bC BK382.out 5).trans rfl, (bC BK382.out 6).trans rfl, (bC BK382.out 7).trans rfl, (bC BK382.out 8).trans rfl, (bC BK382.out 9).trans rfl, (bC BK383.out 0).trans rfl, (bC BK383.out 1).trans rfl, (bC BK383.out 2).trans rfl, (bC BK383.out 3).trans rfl, (bC BK383.out 4).trans rfl, (bC BK383.out 5).trans rfl, (bC BK383.out 6).trans rfl, (bC BK383.out 7).trans rfl, (bC BK383.out 8).trans rfl, (bC BK383.out 9).trans rfl, (bC BK388.out 0).trans rfl, (bC BK388.out 1).trans rfl, (bC BK388.out 2).trans rfl⟩ (fun hHeld => ?_); clear hK K; refine norm_ (a' := ?_) ?_ ?_; rotate_left
   · show Act.put _ (some 59) _ = _; simp only [Act.put, s1, s2, s3, i64_w, i32_w]; rfl
   refine one_ (i := 16) (N := some 60) q15_17 rfl rfl (one_of HT_.out (by kernel_rfl)) (by decide) (fun K hK => ?_); refine goes_ Try.func82 (by kernel_rfl) rfl #[.slice Ao74 y391.length co74] (by rfl) rfl rfl (by (try simp only [List.map_toArray, List.map_cons, List.map_nil]); first | done | rfl | (simp only [lD, lT]; rfl)) ?_; with_reducible refine (api_Entry_82.calls _ _ y391 t394 _ ?side1 ?side2 A54.out).mono ?_
   (case side1 => repeat (first | exact (Kd.N_reads' HO393.out).2.2 | (with_reducible refine Kd.C_alloc ?_ _) | (with_reducible refine Kd.C_drewN ?_ _) | (with_reducible refine Kd.C_drew ?_)))
   (case side2 => exact (Kd.N_reads' HO393.out).2.1)
   rintro e w75 ⟨v395, rfl, ho0, hb⟩; refine ⟨_, rfl, ?_⟩; have n0_ := K0 (Kd.N_elder' (by (with_reducible repeat (first | apply Kd.N_alloc | apply Kd.N_drewN | apply Kd.N_drew)); exact HO393.out) (Kd.R_base ho0) hb); have n1_ := K0 (Kd.R_lower ho0 (below_size (by repeat (first | (with_reducible first | exact HB.out | apply wA | apply wN | apply wD | refine wS ?_ GE382.out | refine wS ?_ GE383.out | refine wS ?_ GE384.out | refine wS ?_ GE388.out) | exact HB.out)))); have n2_ := K0 (bB (g := gb382) (o := .cells #[.int .i64 a0_0, .int .i64 a0_1, .string a0_2, .string a0_3, .bool a0_4, .bool a0_5, .slice A0_6 l0_6.length c0_6, .slice A0_7 l0_7.length c0_7, .slice A0_8 l0_8.length c0_8, .slice A0_9 l0_9.length c0_9] 37 (0, 0)) (by (with_reducible repeat (first | refine bN ?_ _ | refine bD ?_ | refine bA ?_ _)); exact BK382.out) hb); have n3_ := K0 (bB (g := gb383) (o := .cells #[.int .i64 a1_0, .int .i64 a1_1, .string a1_2, .string a1_3, .bool a1_4, .bool a1_5, .slice A1_6 l1_6.length c1_6, .slice A1_7 l1_7.length c1_7, .slice A1_8 l1_8.length c1_8, .slice A1_9 l1_9.length c1_9] 37 (0, 0)) (by (with_reducible repeat (first | refine bN ?_ _ | refine bD ?_ | refine bA ?_ _)); exact BK383.out) hb); have n4_ := K0 (bB (g := gb384) (o := .cells #[.int .i64 0, .int .i64 0, .string (⟨#[]⟩ : ByteArray), .string (⟨#[]⟩ : ByteArray), .bool false, .bool false, .slice none 0 0, .slice none 0 0, .slice none 0 0, .slice none 0 0] 37 (0, 0)) (by (with_reducible repeat (first | refine bN ?_ _ | refine bD ?_ | refine bA ?_ _)); exact BK384.out) hb); have n5_ := K0 (bB (g := gb388) (o := .cells #[.string a0_2, .string a1_3, .bool a1_4] 32 (0, 0)) (by (with_reducible repeat (first | refine bN ?_ _ | refine bD ?_ | refine bA ?_ _)); exact BK388.out) hb); have n6_ := K0 (below_step (by repeat (first | (with_reducible first | exact HB.out | apply wA | apply wN | apply wD | refine wS ?_ GE382.out | refine wS ?_ GE383.out | refine wS ?_ GE384.out | refine wS ?_ GE388.out) | exact HB.out)) hb); clear HO393 BK382 BK383 BK384 BK388 HB; have HO393 := n0_; have HO396 := n1_; have BK382 := n2_; have BK383 := n3_; have BK384 := n4_; have BK388 := n5_; have HB := n6_; clear n0_ n1_ n2_ n3_ n4_ n5_ n6_; (try clear hb)
   (try clear hb2)
   (try clear hk)
   (try clear hi)
   (try clear ho0)
   obtain ⟨Ao76, co76, eo76⟩ := Kd.R_slice HO396.out; (first | subst eo76 | (injection eo76 with f1_ f2_ f3_; have f4_ := f1_.symm; have f5_ := f3_.symm; clear f1_ f2_ f3_; subst f4_; subst f5_))
   refine hK.out _ _ ⟨(bC BK382.out 0).trans rfl, (bC BK382.out 1).trans rfl, (bC BK382.out 2).trans rfl, (bC BK382.out 3).trans rfl, (bC BK382.out 4).trans rfl, (bC BK382.out 5).trans rfl, (bC BK382.out 6).trans rfl, (bC BK382.out 7).trans rfl, (bC BK382.out 8).trans rfl, (bC BK382.out 9).trans rfl, (bC BK383.out 0).trans rfl, (bC BK383.out 1).trans rfl, (bC BK383.out 2).trans rfl, (bC BK383.out 3).trans rfl, (bC BK383.out 4).trans rfl, (bC BK383.out 5).trans rfl, (bC BK383.out 6).trans rfl, (bC BK383.out 7).trans rfl, (bC BK383.out 8).trans rfl, (bC BK383.out 9).trans rfl, (bC BK388.out 0).trans rfl, (bC BK388.out 1).trans rfl, (bC BK388.out 2).trans rfl⟩ (fun hHeld => ?_); clear hK K; refine norm_ (a' := ?_) ?_ ?_; rotate_left
   · show Act.put _ (some 60) _ = _; simp only [Act.put, s1, s2, s3, i64_w, i32_w]; rfl
   refine one_ (i := 17) (N := some 61) q15_18 rfl rfl (one_of HT_.out (by kernel_rfl)) (by decide) (fun K hK => ?_); refine goes_ Try.func55 (by kernel_rfl) rfl #[.int .i64 ji50, .int .i64 ji51, .agg #[.string a0_2, .string a1_3, .bool a1_4], .slice Ao76 t394.length co76] (by rfl) rfl rfl (by (try simp only [List.map_toArray, List.map_cons, List.map_nil]); first | done | (simp only [hji50, hji51]; rfl) | rfl | (simp only [lD, lT]; rfl)) ?_; with_reducible refine (rev_laid.calls kj2 ji50 ji51 a0_2 a1_3 a1_4 _ _ t394 t397 t398 t399 t400 t401 t402 t403 t406 t409 t412 _ ?side1 ?side2 A55.out).mono ?_
   (case side1 => repeat (first | exact (Kd.R_reads' HO396.out).2.2 | (with_reducible refine Kd.C_alloc ?_ _) | (with_reducible refine Kd.C_drewN ?_ _) | (with_reducible refine Kd.C_drew ?_)))
   (case side2 => exact (Kd.R_reads' HO396.out).2.1)
   rintro e w77 ⟨v404, v407, v410, v413, rfl, ho0, ho1, ho2, ho3, hb⟩; refine ⟨_, rfl, ?_⟩; have n0_ := K0 (Kd.N_mono (Kd.N_told (Kd.N_told (Kd.N_told (Kd.N_told (Kd.N_old (by (with_reducible repeat (first | apply Kd.N_alloc | apply Kd.N_drewN | apply Kd.N_drew)); exact HO393.out) hb) (Kd.R_base ho0)) (Kd.R_base ho1)) (Kd.R_base ho2)) (Kd.R_base ho3)) (fun _ h_ => h_.1)); have n1_ := K0 (rB (by (with_reducible repeat (first | apply rA | apply rN | apply rD)); exact HO396.out) hb); have n2_ := K0 (Kd.R_lower ho0 (below_size (by repeat (first | (with_reducible first | exact HB.out | apply wA | apply wN | apply wD | refine wS ?_ GE382.out | refine wS ?_ GE383.out | refine wS ?_ GE384.out | refine wS ?_ GE388.out) | exact HB.out)))); have n3_ := K0 (Kd.R_lower ho1 (below_size (by repeat (first | (with_reducible first | exact HB.out | apply wA | apply wN | apply wD | refine wS ?_ GE382.out | refine wS ?_ GE383.out | refine wS ?_ GE384.out | refine wS ?_ GE388.out) | exact HB.out)))); have n4_ := K0 (Kd.R_lower ho2 (below_size (by repeat (first | (with_reducible first | exact HB.out | apply wA | apply wN | apply wD | refine wS ?_ GE382.out | refine wS ?_ GE383.out | refine wS ?_ GE384.out | refine wS ?_ GE388.out) | exact HB.out)))); have n5_ := K0 (Kd.R_lower ho3 (below_size (by repeat (first | (with_reducible first | exact HB.out | apply wA | apply wN | apply wD | refine wS ?_ GE382.out | refine wS ?_ GE383.out | refine wS ?_ GE384.out | refine wS ?_ GE388.out) | exact HB.out)))); have n6_ := K0 (bB (g := gb382) (o := .cells #[.int .i64 a0_0, .int .i64 a0_1, .string a0_2, .string a0_3, .bool a0_4, .bool a0_5, .slice A0_6 l0_6.length c0_6, .slice A0_7 l0_7.length c0_7, .slice A0_8 l0_8.length c0_8, .slice A0_9 l0_9.length c0_9] 37 (0, 0)) (by (with_reducible repeat (first | refine bN ?_ _ | refine bD ?_ | refine bA ?_ _)); exact BK382.out) hb); have n7_ := K0 (bB (g := gb383) (o := .cells #[.int .i64 a1_0, .int .i64 a1_1, .string a1_2, .string a1_3, .bool a1_4, .bool a1_5, .slice A1_6 l1_6.length c1_6, .slice A1_7 l1_7.length c1_7, .slice A1_8 l1_8.length c1_8, .slice A1_9 l1_9.length c1_9] 37 (0, 0)) (by (with_reducible repeat (first | refine bN ?_ _ | refine bD ?_ | refine bA ?_ _)); exact BK383.out) hb); have n8_ := K0 (bB (g := gb384) (o := .cells #[.int .i64 0, .int .i64 0, .string (⟨#[]⟩ : ByteArray), .string (⟨#[]⟩ : ByteArray), .bool false, .bool false, .slice none 0 0, .slice none 0 0, .slice none 0 0, .slice none 0 0] 37 (0, 0)) (by (with_reducible repeat (first | refine bN ?_ _ | refine bD ?_ | refine bA ?_ _)); exact BK384.out) hb); have n9_ := K0 (bB (g := gb388) (o := .cells #[.string a0_2, .string a1_3, .bool a1_4] 32 (0, 0)) (by (with_reducible repeat (first | refine bN ?_ _ | refine bD ?_ | refine bA ?_ _)); exact BK388.out) hb); have n10_ := K0 (below_step (by repeat (first | (with_reducible first | exact HB.out | apply wA | apply wN | apply wD | refine wS ?_ GE382.out | refine wS ?_ GE383.out | refine wS ?_ GE384.out | refine wS ?_ GE388.out) | exact HB.out)) hb); clear HO393 HO396 BK382 BK383 BK384 BK388 HB; have HO393 := n0_; have HO396 := n1_; have HO405 := n2_; have HO408 := n3_; have HO411 := n4_; have HO414 := n5_; have BK382 := n6_; have BK383 := n7_; have BK384 := n8_; have BK388 := n9_; have HB := n10_; clear n0_ n1_ n2_ n3_ n4_ n5_ n6_ n7_ n8_ n9_ n10_; (try clear hb)
   (try clear hb2)
   (try clear hk)
   (try clear hi)
   (try clear ho0)
   (try clear ho1)
   (try clear ho2)
   (try clear ho3)
   obtain ⟨Ao84, co84, eo84⟩ := Kd.R_slice HO405.out; (first | subst eo84 | (injection eo84 with f1_ f2_ f3_; have f4_ := f1_.symm; have f5_ := f3_.symm; clear f1_ f2_ f3_; subst f4_; subst f5_))
   obtain ⟨Ao86, co86, eo86⟩ := Kd.R_slice HO408.out; (first | subst eo86 | (injection eo86 with f1_ f2_ f3_; have f4_ := f1_.symm; have f5_ := f3_.symm; clear f1_ f2_ f3_; subst f4_; subst f5_))
   obtain ⟨Ao88, co88, eo88⟩ := Kd.R_slice HO411.out; (first | subst eo88 | (injection eo88 with f1_ f2_ f3_; have f4_ := f1_.symm; have f5_ := f3_.symm; clear f1_ f2_ f3_; subst f4_; subst f5_))
   obtain ⟨Ao90, co90, eo90⟩ := Kd.R_slice HO414.out; (first | subst eo90 | (injection eo90 with f1_ f2_ f3_; have f4_ := f1_.symm; have f5_ := f3_.symm; clear f1_ f2_ f3_; subst f4_; subst f5_))
   refine hK.out _ _ ⟨(bC BK382.out 0).trans rfl, (bC BK382.out 1).trans rfl, (bC BK382.out 2).trans rfl, (bC BK382.out 3).trans rfl, (bC BK382.out 4).trans rfl, (bC BK382.out 5).trans rfl, (bC BK382.out 6).trans rfl, (bC BK382.out 7).trans rfl, (bC BK382.out 8).trans rfl, (bC BK382.out 9).trans rfl, (bC BK383.out 0).trans rfl, (bC BK383.out 1).trans rfl, (bC BK383.out 2).trans rfl, (bC BK383.out 3).trans rfl, (bC BK383.out 4).trans rfl, (bC BK383.out 5).trans rfl, (bC BK383.out 6).trans rfl, (bC BK383.out 7).trans rfl, (bC BK383.out 8).trans rfl, (bC BK383.out 9).trans rfl, (bC BK388.out 0).trans rfl, (bC BK388.out 1).trans rfl, (bC BK388.out 2).trans rfl⟩ (fun hHeld => ?_); clear hK K; refine norm_ (a' := ?_) ?_ ?_; rotate_left
   · show Act.put _ (some 61) _ = _; simp only [Act.put, s1, s2, s3, i64_w, i32_w]; rfl
   refine one_ (i := 18) (N := none) q15_19 rfl rfl (one_of HT_.out (by kernel_rfl)) (by decide) (fun K hK => ?_); have hs78 : w77.cell? ⟨gb384, 0, none⟩ = some (.int .i64 0) := (bC BK384.out 0).trans rfl; have hfs78 := bF BK384.out 0; have hns78_0 := NB382_384.out; have hns78_1 := NB383_384.out; have hns78_3 := NB388_384.out; have hms78_0 := NB384_382.out; have hms78_1 := NB384_383.out; have hms78_3 := NB384_388.out; have hs79 : w77.cell? ⟨gb384, 1, none⟩ = some (.int .i64 0) := (bC BK384.out 1).trans rfl; have hfs79 := bF BK384.out 1; have hns79_0 := NB382_384.out; have hns79_1 := NB383_384.out; have hns79_3 := NB388_384.out; have hms79_0 := NB384_382.out; have hms79_1 := NB384_383.out; have hms79_3 := NB384_388.out; have hs80 : w77.cell? ⟨gb384, 2, none⟩ = some (.string (⟨#[]⟩ : ByteArray)) := (bC BK384.out 2).trans rfl; have hfs80 := bF BK384.out 2; have hns80_0 := NB382_384.out; have hns80_1 := NB383_384.out; have hns80_3 := NB388_384.out; have hms80_0 := NB384_382.out; have hms80_1 := NB384_383.out; have hms80_3 := NB384_388.out; have hs81 : w77.cell? ⟨gb384, 3, none⟩ = some (.string (⟨#[]⟩ : ByteArray)) := (bC BK384.out 3).trans rfl; have hfs81 := bF BK384.out 3; have hns81_0 := NB382_384.out; have hns81_1 := NB383_384.out; have hns81_3 := NB388_384.out; have hms81_0 := NB384_382.out; have hms81_1 := NB384_383.out; have hms81_3 := NB384_388.out; have hs82 : w77.cell? ⟨gb384, 4, none⟩ = some (.bool false) := (bC BK384.out 4).trans rfl; have hfs82 := bF BK384.out 4; have hns82_0 := NB382_384.out; have hns82_1 := NB383_384.out; have hns82_3 := NB388_384.out; have hms82_0 := NB384_382.out; have hms82_1 := NB384_383.out; have hms82_3 := NB384_388.out; have hs83 : w77.cell? ⟨gb384, 5, none⟩ = some (.bool false) := (bC BK384.out 5).trans rfl; have hfs83 := bF BK384.out 5; have hns83_0 := NB382_384.out; have hns83_1 := NB383_384.out; have hns83_3 := NB388_384.out; have hms83_0 := NB384_382.out; have hms83_1 := NB384_383.out; have hms83_3 := NB384_388.out; have hs85 : w77.cell? ⟨gb384, 6, none⟩ = some (.slice none 0 0) := (bC BK384.out 6).trans rfl; have hfs85 := bF BK384.out 6; have hns85_0 := NB382_384.out; have hns85_1 := NB383_384.out; have hns85_3 := NB388_384.out; have hms85_0 := NB384_382.out; have hms85_1 := NB384_383.out; have hms85_3 := NB384_388.out; have hs87 : w77.cell? ⟨gb384, 7, none⟩ = some (.slice none 0 0) := (bC BK384.out 7).trans rfl; have hfs87 := bF BK384.out 7; have hns87_0 := NB382_384.out; have hns87_1 := NB383_384.out; have hns87_3 := NB388_384.out; have hms87_0 := NB384_382.out; have hms87_1 := NB384_383.out; have hms87_3 := NB384_388.out; have hs89 : w77.cell? ⟨gb384, 8, none⟩ = some (.slice none 0 0) := (bC BK384.out 8).trans rfl; have hfs89 := bF BK384.out 8; have hns89_0 := NB382_384.out; have hns89_1 := NB383_384.out; have hns89_3 := NB388_384.out; have hms89_0 := NB384_382.out; have hms89_1 := NB384_383.out; have hms89_3 := NB384_388.out; have hs91 : w77.cell? ⟨gb384, 9, none⟩ = some (.slice none 0 0) := (bC BK384.out 9).trans rfl; have hfs91 := bF BK384.out 9; have hns91_0 := NB382_384.out; have hns91_1 := NB383_384.out; have hns91_3 := NB388_384.out; have hms91_0 := NB384_382.out; have hms91_1 := NB384_383.out; have hms91_3 := NB384_388.out; refine skip_ (w1 := ?_) (by rfl) rfl ?_ ?_; rotate_left
   · go_simp; rfl
   refine hK.out _ _ ⟨(cfar10 NB382_384.out (hHeld.1)), (cfar10 NB382_384.out (hHeld.2.1)), (cfar10 NB382_384.out (hHeld.2.2.1)), (cfar10 NB382_384.out (hHeld.2.2.2.1)), (cfar10 NB382_384.out (hHeld.2.2.2.2.1)), (cfar10 NB382_384.out (hHeld.2.2.2.2.2.1)), (cfar10 NB382_384.out (hHeld.2.2.2.2.2.2.1)), (cfar10 NB382_384.out (hHeld.2.2.2.2.2.2.2.1)), (cfar10 NB382_384.out (hHeld.2.2.2.2.2.2.2.2.1)), (cfar10 NB382_384.out (hHeld.2.2.2.2.2.2.2.2.2.1)), (cfar10 NB383_384.out (hHeld.2.2.2.2.2.2.2.2.2.2.1)), (cfar10 NB383_384.out (hHeld.2.2.2.2.2.2.2.2.2.2.2.1)), (cfar10 NB383_384.out (hHeld.2.2.2.2.2.2.2.2.2.2.2.2.1)), (cfar10 NB383_384.out (hHeld.2.2.2.2.2.2.2.2.2.2.2.2.2.1)), (cfar10 NB383_384.out (hHeld.2.2.2.2.2.2.2.2.2.2.2.2.2.2.1)), (cfar10 NB383_384.out (hHeld.2.2.2.2.2.2.2.2.2.2.2.2.2.2.2.1)), (cfar10 NB383_384.out (hHeld.2.2.2.2.2.2.2.2.2.2.2.2.2.2.2.2.1)), (cfar10 NB383_384.out (hHeld.2.2.2.2.2.2.2.2.2.2.2.2.2.2.2.2.2.1)), (cfar10 NB383_384.out (hHeld.2.2.2.2.2.2.2.2.2.2.2.2.2.2.2.2.2.2.1)), (cfar10 NB383_384.out (hHeld.2.2.2.2.2.2.2.2.2.2.2.2.2.2.2.2.2.2.2.1)), (cfar10 NB388_384.out (hHeld.2.2.2.2.2.2.2.2.2.2.2.2.2.2.2.2.2.2.2.2.1)), (cfar10 NB388_384.out (hHeld.2.2.2.2.2.2.2.2.2.2.2.2.2.2.2.2.2.2.2.2.2.1)), (cfar10 NB388_384.out (hHeld.2.2.2.2.2.2.2.2.2.2.2.2.2.2.2.2.2.2.2.2.2.2))⟩ (fun hHeld => ?_); clear hK K; refine pure_ (i := 19) (N := some 5) (v := ?_) (a' := ?_) q15_20 rfl rfl (any_of HT_.out (by kernel_rfl)) (fun _ _ _ h => h) (Or.inl ⟨by rfl, ?_⟩) ?_ ?_; rotate_left
   · intro w'; go_simp; with_reducible rfl
   rotate_left
   · simp only [Act.put, s1, s2, s3, i64_w, i32_w]; rfl
   refine done_ (done_of HT_.out (by kernel_rfl)) ?_; try go_wp2
   refine bodyPost_ret (results_ct rfl _ _ gb384 37 #[.int .i64 t397, .int .i64 t398, .string t399, .string t400, .bool t401, .bool t402, .slice Ao84 t403.length co84, .slice Ao86 t406.length co86, .slice Ao88 t409.length co88, .slice Ao90 t412.length co90] (0, 0) _ rfl (by (with_reducible repeat (first | refine bN ?_ _ | refine bD ?_ | refine bA ?_ _)); apply blkS10; (with_reducible repeat (first | refine bN ?_ _ | refine bD ?_ | refine bA ?_ _)); exact BK384.out) Try.underlying37 rfl (by kernel_rfl)) rfl ?_; exact ⟨_, _, _, _, by first | rfl | (simp [errW_none, errW_some] <;> rfl) | (simp only [← hji50, ← hji51]; first | rfl | (simp [errW_none, errW_some] <;> rfl)) | (simp [*, errW_none, errW_some] <;> rfl), by (with_reducible repeat (first | apply rA | apply rN | apply rD)); exact Kd.R_mono (Kd.farS10 (Kd.R_types HO405.out BK384.out (by decide)) (fun _ hk => hk.2)) (fun _ hk => hk.1), by (with_reducible repeat (first | apply rA | apply rN | apply rD)); exact Kd.R_mono (Kd.farS10 (Kd.R_types HO408.out BK384.out (by decide)) (fun _ hk => hk.2)) (fun _ hk => hk.1), by (with_reducible repeat (first | apply rA | apply rN | apply rD)); exact Kd.R_mono (Kd.farS10 (Kd.R_types HO411.out BK384.out (by decide)) (fun _ hk => hk.2)) (fun _ hk => trivial), by (with_reducible repeat (first | apply rA | apply rN | apply rD)); exact Kd.R_mono (Kd.farS10 (Kd.R_types HO414.out BK384.out (by decide)) (fun _ hk => hk.2)) (fun _ hk => trivial), by repeat (first | (with_reducible first | exact HB.out | apply wA | apply wN | apply wD | refine wS ?_ GE382.out | refine wS ?_ GE383.out | refine wS ?_ GE384.out | refine wS ?_ GE388.out) | exact HB.out)⟩
end Go.Proofs.Ytoaacdjcjicemaa.PRevBack
