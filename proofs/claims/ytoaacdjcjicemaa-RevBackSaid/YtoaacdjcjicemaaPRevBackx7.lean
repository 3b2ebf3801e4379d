-- written by a program of this session (the print, turned)
import Derived.Test.YtoaacdjcjicemaaPRevBackx0
import Derived.Test.YtoaacdjcjicemaaPRevBackx3
import Derived.Test.YtoaacdjcjicemaaPRevBackx4
import Derived.Test.YtoaacdjcjicemaaPRevBackx5
import Derived.Test.YtoaacdjcjicemaaPRevBackx6
import Derived.Test.YtoaacdjcjicemaaWAl
namespace Go.Proofs.Ytoaacdjcjicemaa.PRevBack
open Go.RowKit Go.Proofs.YtoaacdjcjicemaaW.PrintWords Go.Proofs.YtoaacdjcjicemaaW.PrintLast Go.Proofs.YtoaacdjcjicemaaW.PrintMore
attribute [local go_sem] cell_self cell_there leq_str geq_str gtr_str max2_str max2_int min2_int max_two min_two max_three min_three max_four min_four   -- for this text's walks alone
set_option linter.unusedVariables false
set_option linter.unusedSimpArgs false
abbrev q7_0 : Array Bool := #[false, false, false, false, false, false, false, false, false, false, false, false, false, false, false]
abbrev q7_1 : Array Bool := #[true, false, false, false, false, false, false, false, false, false, false, false, false, false, false]
abbrev q7_2 : Array Bool := #[true, true, false, false, false, false, false, false, false, false, false, false, false, false, false]
abbrev q7_3 : Array Bool := #[true, true, false, true, false, false, false, false, false, false, false, false, false, false, false]
abbrev q7_4 : Array Bool := #[true, true, false, true, true, false, false, false, false, false, false, false, false, false, false]
abbrev q7_5 : Array Bool := #[true, true, false, true, true, false, true, false, false, false, false, false, false, false, false]
abbrev q7_6 : Array Bool := #[true, true, false, true, true, false, true, false, false, false, true, false, false, false, false]
abbrev q7_7 : Array Bool := #[true, true, true, true, true, false, true, false, false, false, true, false, false, false, false]
abbrev q7_8 : Array Bool := #[true, true, true, true, true, false, true, true, false, false, true, false, false, false, false]
abbrev q7_9 : Array Bool := #[true, true, true, true, true, false, true, true, true, false, true, false, false, false, false]
abbrev q7_10 : Array Bool := #[true, true, true, true, true, true, true, true, true, false, true, false, false, false, false]
abbrev q7_11 : Array Bool := #[true, true, true, true, true, true, true, true, true, true, true, false, false, false, false]
abbrev q7_12 : Array Bool := #[true, true, true, true, true, true, true, true, true, true, true, true, false, false, false]
abbrev q7_13 : Array Bool := #[true, true, true, true, true, true, true, true, true, true, true, true, true, false, false]
abbrev q7_14 : Array Bool := #[true, true, true, true, true, true, true, true, true, true, true, true, true, true, false]
abbrev q7_15 : Array Bool := #[true, true, true, true, true, true, true, true, true, true, true, true, true, true, true]
/-! ### rev_Apply: function 19 -/
def rev_Apply.j0 : Nat → Int → List (S114) → Bool → Int → Int → ByteArray → ByteArray → Bool → Bool → List ByteArray → List ByteArray → List Bool → List Int → Option (Int × Int × ByteArray × ByteArray × Bool × Bool × List ByteArray × List ByteArray × List Bool × List Int × Int)
 | 0, _, _, _, _, _, _, _, _, _, _, _, _, _ => none
 | k + 1, x1, x2, x16, x197000, x197001, x197002, x197003, x197004, x197005, x197006, x197007, x197008, x197009 => if x16 = true then (some (0, 0, (⟨#[]⟩ : ByteArray), (⟨#[]⟩ : ByteArray), false, false, ([] : List ByteArray), ([] : List ByteArray), ([] : List Bool), ([] : List Int), 1)) else ((pace_Rate.f x197001 (x2.length : Int)).bind fun t199 => ((rev_Entries.f k x197000 x197001 x197002 x197003 x197004 x197005 x197006 x197007 x197008 x197009).bind fun t200 => ((rev_merged.f k t200 x2).bind fun t203 => ((rev_laid.f k x1 t199 x197002 x197003 x197004 t203).bind fun bt206 => (some (bt206.1, bt206.2.1, bt206.2.2.1, bt206.2.2.2.1, bt206.2.2.2.2.1, bt206.2.2.2.2.2.1, bt206.2.2.2.2.2.2.1, bt206.2.2.2.2.2.2.2.1, bt206.2.2.2.2.2.2.2.2.1, bt206.2.2.2.2.2.2.2.2.2, 0))))))
def rev_Apply.f (k : Nat) (a0_0 : Int) (a0_1 : Int) (a0_2 : ByteArray) (a0_3 : ByteArray) (a0_4 : Bool) (a0_5 : Bool) (l0_6 : List ByteArray) (l0_7 : List ByteArray) (l0_8 : List Bool) (l0_9 : List Int) (a1 : Int) (l2 : List (S114)) : Option (Int × Int × ByteArray × ByteArray × Bool × Bool × List ByteArray × List ByteArray × List Bool × List Int × Int) := if a0_5 = true then (rev_Apply.j0 k a1 l2 true a0_0 a0_1 a0_2 a0_3 a0_4 a0_5 l0_6 l0_7 l0_8 l0_9) else ((rev_rises.f k a0_2 a0_3 a0_4 l2).bind fun t198 => (rev_Apply.j0 k a1 l2 (!t198) a0_0 a0_1 a0_2 a0_3 a0_4 a0_5 l0_6 l0_7 l0_8 l0_9))
def rev_Apply.T3 : Bool × List (List Nat × List Nat) := (true, [([], []), ([], []), ([1], [1]), ([], []), ([3], [3]), ([2, 4], [2, 4]), ([], []), ([6], [6]), ([], []), ([8, 5], [8]), ([], []), ([9, 10, 9], [9, 10]), ([0, 5, 7, 11, 11], [0, 5, 7, 11]), ([12, 12, 0, 1, 2, 3, 4, 5, 6, 7, 8, 9, 10, 11, 12], [12]), ([13, 0, 1, 2, 3, 4, 5, 6, 7, 8, 9, 10, 11, 12, 13], [])])
def rev_Apply.B3 : List Nat := [0, 0, 2, 0, 8, 30, 0, 64, 0, 318, 0, 1854, 4095, 8191, 16383]
theorem rev_Apply.tab3 : rtab .any (opsOf Try.f19 3) = rev_Apply.T3 := by kernel_rfl
theorem rev_Apply.bits3 : waitsOk rev_Apply.T3.2 rev_Apply.B3 = true := by kernel_rfl
set_option maxHeartbeats 8000000 in
set_option maxRecDepth 100000 in
theorem rev_Apply.calls (k : Nat) (a0_0 : Int) (a0_1 : Int) (a0_2 : ByteArray) (a0_3 : ByteArray) (a0_4 : Bool) (a0_5 : Bool) (A0_6 : Option Addr) (c0_6 : Nat) (l0_6 : List ByteArray) (A0_7 : Option Addr) (c0_7 : Nat) (l0_7 : List ByteArray) (A0_8 : Option Addr) (c0_8 : Nat) (l0_8 : List Bool) (A0_9 : Option Addr) (c0_9 : Nat) (l0_9 : List Int) (a1 : Int) (A2 : Option Addr) (c2 : Nat) (l2 : List (S114)) (r1 : Int) (r2 : Int) (r3 : ByteArray) (r4 : ByteArray) (r5 : Bool) (r6 : Bool) (r7 : List ByteArray) (r8 : List ByteArray) (r9 : List Bool) (r10 : List Int) (r11 : Int) (w : World) (hr0_6 : Kd.C Kd.string w A0_6 l0_6.length l0_6) (hc0_6 : l0_6.length ≤ c0_6) (hr0_7 : Kd.C Kd.string w A0_7 l0_7.length l0_7) (hc0_7 : l0_7.length ≤ c0_7) (hr0_8 : Kd.C Kd.bool w A0_8 l0_8.length l0_8) (hc0_8 : l0_8.length ≤ c0_8) (hr0_9 : Kd.C (Kd.int .i64) w A0_9 l0_9.length l0_9) (hc0_9 : l0_9.length ≤ c0_9) (hr2 : Kd.C k114 w A2 l2.length l2) (hc2 : l2.length ≤ c2) (h : rev_Apply.f k a0_0 a0_1 a0_2 a0_3 a0_4 a0_5 l0_6 l0_7 l0_8 l0_9 a1 l2 = some (r1, r2, r3, r4, r5, r6, r7, r8, r9, r10, r11)) :
  Calls Try.prog 19 #[.agg #[.int .i64 a0_0, .int .i64 a0_1, .string a0_2, .string a0_3, .bool a0_4, .bool a0_5, .slice A0_6 l0_6.length c0_6, .slice A0_7 l0_7.length c0_7, .slice A0_8 l0_8.length c0_8, .slice A0_9 l0_9.length c0_9], .int .i64 a1, .slice A2 l2.length c2] w fun e w' => ∃ v6_ v7_ v8_ v9_ : Value, e = .returned (.tuple #[.agg #[.int .i64 r1, .int .i64 r2, .string r3, .string r4, .bool r5, .bool r6, v6_, v7_, v8_, v9_], .int .i64 r11]) ∧ Kd.R Kd.string 9 w' w.heap.size (fun k_ => some k_ ≠ (v7_ : Value).ownBlock) v6_ r7 ∧ Kd.R Kd.string 9 w' w.heap.size (fun k_ => some k_ ≠ (v6_ : Value).ownBlock) v7_ r8 ∧ Kd.R Kd.bool 4 w' w.heap.size (fun _ => True) v8_ r9 ∧ Kd.R (Kd.int .i64) 3 w' w.heap.size (fun _ => True) v9_ r10 ∧ Below w.heap.size w w' := by
 have hu37 := Try.underlying37
 have hu32 := Try.underlying32
 have HR0_6 := K0 hr0_6
 have HC0_6 := K0 hc0_6
 clear hr0_6 hc0_6
 have HR0_7 := K0 hr0_7
 have HC0_7 := K0 hc0_7
 clear hr0_7 hc0_7
 have HR0_8 := K0 hr0_8
 have HC0_8 := K0 hc0_8
 clear hr0_8 hc0_8
 have HR0_9 := K0 hr0_9
 have HC0_9 := K0 hc0_9
 clear hr0_9 hc0_9
 have HR2 := K0 hr2
 have HC2 := K0 hc2
 clear hr2 hc2
 have HB := K0 (Below.refl w.heap.size w)
 have H : (if a0_5 = true then (rev_Apply.j0 k a1 l2 true a0_0 a0_1 a0_2 a0_3 a0_4 a0_5 l0_6 l0_7 l0_8 l0_9) else ((rev_rises.f k a0_2 a0_3 a0_4 l2).bind fun t198 => (rev_Apply.j0 k a1 l2 (!t198) a0_0 a0_1 a0_2 a0_3 a0_4 a0_5 l0_6 l0_7 l0_8 l0_9))) = some (r1, r2, r3, r4, r5, r6, r7, r8, r9, r10, r11) := h
 clear h
 have HC4 := K0 H
 clear H
 go_enter Try.func19, Try.ntmps19
 go_upto_region 1 with (first | ((with_reducible refine gate_dst (N := 3) rfl ?_); refine box_event ?hg (N := 3) ?hd (cs := #[.int .i64 a0_0, .int .i64 a0_1, .string a0_2, .string a0_3, .bool a0_4, .bool a0_5, .slice A0_6 l0_6.length c0_6, .slice A0_7 l0_7.length c0_7, .slice A0_8 l0_8.length c0_8, .slice A0_9 l0_9.length c0_9]) (t := 37) ?hr ?_; (case hd => rfl); (case hg => rfl); (case hr => first | (go_simp; done) | (go_simp; rfl)); intro gb196 hg w5 hbox hb; have n0_ := K0 (below_step (by repeat (first | (with_reducible first | exact HB.out | apply wA | apply wN | apply wD) | exact HB.out)) hb); have n1_ := K0 (hbox); have n2_ := K0 ((by rw [hg]; exact (below_size (by repeat (first | (with_reducible first | exact HB.out | apply wA | apply wN | apply wD) | exact HB.out))) : w.heap.size ≤ gb196)); have n3_ := K0 ((by rw [hg]; exact (below_size (by repeat (first | (with_reducible first | exact HB.out | apply wA | apply wN | apply wD) | exact HB.out))) : w.heap.size ≤ gb196)); clear HB; have HB := n0_; have BK196 := n1_; have GW196 := n2_; have GE196 := n3_; clear n0_ n1_ n2_ n3_; clear hb hbox hg) | ((with_reducible refine gate_dst (N := 6) rfl ?_); refine box_event ?hg (N := 6) ?hd (cs := #[.int .i64 0, .int .i64 0, .string (⟨#[]⟩ : ByteArray), .string (⟨#[]⟩ : ByteArray), .bool false, .bool false, .slice none 0 0, .slice none 0 0, .slice none 0 0, .slice none 0 0]) (t := 37) ?hr ?_; (case hd => rfl); (case hg => rfl); (case hr => first | (go_simp; done) | (go_simp; rfl)); intro gb197 hg w6 hbox hb; have n0_ := K0 (bB (g := gb196) (o := .cells #[.int .i64 a0_0, .int .i64 a0_1, .string a0_2, .string a0_3, .bool a0_4, .bool a0_5, .slice A0_6 l0_6.length c0_6, .slice A0_7 l0_7.length c0_7, .slice A0_8 l0_8.length c0_8, .slice A0_9 l0_9.length c0_9] 37 (0, 0)) (by (with_reducible repeat (first | refine bN ?_ _ | refine bD ?_ | refine bA ?_ _)); exact BK196.out) hb); have n1_ := K0 (below_step (by repeat (first | (with_reducible first | exact HB.out | apply wA | apply wN | apply wD | refine wS ?_ GE196.out) | exact HB.out)) hb); have n2_ := K0 (hbox); have n3_ := K0 ((by rw [hg]; exact (below_size (by repeat (first | (with_reducible first | exact HB.out | apply wA | apply wN | apply wD | refine wS ?_ GE196.out) | exact HB.out))) : w.heap.size ≤ gb197)); have n4_ := K0 ((by rw [hg]; exact (below_size (by repeat (first | (with_reducible first | exact HB.out | apply wA | apply wN | apply wD | refine wS ?_ GE196.out) | exact HB.out))) : w.heap.size ≤ gb197)); have n5_ := K0 ((by rw [hg]; exact Nat.ne_of_lt (blk_lt (g := gb196) (o := .cells #[.int .i64 a0_0, .int .i64 a0_1, .string a0_2, .string a0_3, .bool a0_4, .bool a0_5, .slice A0_6 l0_6.length c0_6, .slice A0_7 l0_7.length c0_7, .slice A0_8 l0_8.length c0_8, .slice A0_9 l0_9.length c0_9] 37 (0, 0)) (by (with_reducible repeat (first | refine bN ?_ _ | refine bD ?_ | refine bA ?_ _)); exact BK196.out)) : gb196 ≠ gb197)); have n6_ := K0 ((by rw [hg]; exact Nat.ne_of_gt (blk_lt (g := gb196) (o := .cells #[.int .i64 a0_0, .int .i64 a0_1, .string a0_2, .string a0_3, .bool a0_4, .bool a0_5, .slice A0_6 l0_6.length c0_6, .slice A0_7 l0_7.length c0_7, .slice A0_8 l0_8.length c0_8, .slice A0_9 l0_9.length c0_9] 37 (0, 0)) (by (with_reducible repeat (first | refine bN ?_ _ | refine bD ?_ | refine bA ?_ _)); exact BK196.out)) : gb197 ≠ gb196)); clear BK196; clear HB; have BK196 := n0_; have HB := n1_; have BK197 := n2_; have GW197 := n3_; have GE197 := n4_; have NB196_197 := n5_; have NB197_196 := n6_; clear n0_ n1_ n2_ n3_ n4_ n5_ n6_; clear hb hbox hg))
 (try simp only [Act.put, s1, s2, s3])
 go_cut [16] (fun v16 wc => ∃ (kq : Nat) (x16_3 : Bool), v16 = .bool x16_3 ∧ Aside0 (rev_Apply.j0 kq a1 l2 x16_3 a0_0 a0_1 a0_2 a0_3 a0_4 a0_5 l0_6 l0_7 l0_8 l0_9 = some (r1, r2, r3, r4, r5, r6, r7, r8, r9, r10, r11)) ∧ Aside0 (kq ≤ k) ∧ Aside0 (wc.heap[gb196]? = some (.cells #[.int .i64 a0_0, .int .i64 a0_1, .string a0_2, .string a0_3, .bool a0_4, .bool a0_5, (.slice A0_6 l0_6.length c0_6), (.slice A0_7 l0_7.length c0_7), (.slice A0_8 l0_8.length c0_8), (.slice A0_9 l0_9.length c0_9)] 37 (0, 0))) ∧ Aside0 (wc.heap[gb197]? = some (.cells #[.int .i64 0, .int .i64 0, .string (⟨#[]⟩ : ByteArray), .string (⟨#[]⟩ : ByteArray), .bool false, .bool false, (.slice none 0 0), (.slice none 0 0), (.slice none 0 0), (.slice none 0 0)] 37 (0, 0))) ∧ Aside0 (Below w.heap.size w wc))
 case first =>
  have H := HC4.out
  clear HC4
  by_cases c7 : a0_5 = true
  ·
   subst c7; have H1 : (rev_Apply.j0 k a1 l2 true a0_0 a0_1 a0_2 a0_3 a0_4 true l0_6 l0_7 l0_8 l0_9) = some (r1, r2, r3, r4, r5, r6, r7, r8, r9, r10, r11) := by rw [if_pos rfl] at H; exact H
   clear H; have H := H1; clear H1; have H' := K0 H; clear H; have hnb8 := NB196_197.out; have hnc8 := NB197_196.out; obtain ⟨hcz9_0, hcz9_1, hcz9_2, hcz9_3, hcz9_4, hcz9_5, hcz9_6, hcz9_7, hcz9_8, hcz9_9⟩ := cellS10 BK196.out; obtain ⟨hfz9_0, hfz9_1, hfz9_2, hfz9_3, hfz9_4, hfz9_5, hfz9_6, hfz9_7, hfz9_8, hfz9_9⟩ := frozS10 BK196.out; go_wp2
   go_meet
   case rel => exact ⟨_, (true), (by first | rfl | (simp; done) | (simp [*]; done)), H', ⟨by first | omega | exact Nat.le_refl _⟩, ⟨by (with_reducible repeat (first | refine bN ?_ _ | refine bD ?_ | refine bA ?_ _)); exact BK196.out⟩, ⟨by (with_reducible repeat (first | refine bN ?_ _ | refine bD ?_ | refine bA ?_ _)); exact BK197.out⟩, ⟨by repeat (first | (with_reducible first | exact HB.out | apply wA | apply wN | apply wD | refine wS ?_ GE196.out | refine wS ?_ GE197.out) | exact HB.out)⟩⟩
  replace c7 := Bool.eq_false_iff.mpr c7
  subst c7
  have H1 : ((rev_rises.f k a0_2 a0_3 a0_4 l2).bind fun t198 => (rev_Apply.j0 k a1 l2 (!t198) a0_0 a0_1 a0_2 a0_3 a0_4 false l0_6 l0_7 l0_8 l0_9)) = some (r1, r2, r3, r4, r5, r6, r7, r8, r9, r10, r11) := by rw [if_neg (show ¬ (false = true) by decide)] at H; exact H
  clear H
  have H := H1
  clear H1
  replace H := Option.bind_eq_some_iff.mp H
  obtain ⟨t198, A100, H⟩ := H
  replace H : (rev_Apply.j0 k a1 l2 (!t198) a0_0 a0_1 a0_2 a0_3 a0_4 false l0_6 l0_7 l0_8 l0_9) = some (r1, r2, r3, r4, r5, r6, r7, r8, r9, r10, r11) := H
  have A10 := K0 A100
  clear A100
  have H' := K0 H
  clear H
  have hnb11 := NB196_197.out
  have hnc11 := NB197_196.out
  obtain ⟨hcz12_0, hcz12_1, hcz12_2, hcz12_3, hcz12_4, hcz12_5, hcz12_6, hcz12_7, hcz12_8, hcz12_9⟩ := cellS10 BK196.out
  obtain ⟨hfz12_0, hfz12_1, hfz12_2, hfz12_3, hfz12_4, hfz12_5, hfz12_6, hfz12_7, hfz12_8, hfz12_9⟩ := frozS10 BK196.out
  go_wp2_with (first | (go_at_call 54; (with_reducible refine (rev_rises.calls k a0_2 a0_3 a0_4 _ _ l2 t198 _ ?side1 ?side2 A10.out).mono ?_); (case side1 => repeat (first | exact (Kd.C_below HR2.out HB.out) | (with_reducible refine Kd.C_alloc ?_ _) | (with_reducible refine Kd.C_drewN ?_ _) | (with_reducible refine Kd.C_drew ?_))); (case side2 => exact HC2.out); rintro e w13 ⟨rfl, hb⟩; have n0_ := K0 (bB (g := gb196) (o := .cells #[.int .i64 a0_0, .int .i64 a0_1, .string a0_2, .string a0_3, .bool a0_4, .bool false, .slice A0_6 l0_6.length c0_6, .slice A0_7 l0_7.length c0_7, .slice A0_8 l0_8.length c0_8, .slice A0_9 l0_9.length c0_9] 37 (0, 0)) (by (with_reducible repeat (first | refine bN ?_ _ | refine bD ?_ | refine bA ?_ _)); exact BK196.out) hb); have n1_ := K0 (bB (g := gb197) (o := .cells #[.int .i64 0, .int .i64 0, .string (⟨#[]⟩ : ByteArray), .string (⟨#[]⟩ : ByteArray), .bool false, .bool false, .slice none 0 0, .slice none 0 0, .slice none 0 0, .slice none 0 0] 37 (0, 0)) (by (with_reducible repeat (first | refine bN ?_ _ | refine bD ?_ | refine bA ?_ _)); exact BK197.out) hb); have n2_ := K0 (below_step (by repeat (first | (with_reducible first | exact HB.out | apply wA | apply wN | apply wD | refine wS ?_ GE196.out | refine wS ?_ GE197.out) | exact HB.out)) hb); clear BK196; clear BK197; clear HB; have BK196 := n0_; have BK197 := n1_; have HB := n2_; clear n0_ n1_ n2_; (try clear hb); (try clear hb2); (try clear hk); (try clear hi)))
  go_meet
  case rel => exact ⟨_, (!t198), (by first | rfl | (simp; done) | (simp [*]; done)), H', ⟨by first | omega | exact Nat.le_refl _⟩, ⟨by (with_reducible repeat (first | refine bN ?_ _ | refine bD ?_ | refine bA ?_ _)); exact BK196.out⟩, ⟨by (with_reducible repeat (first | refine bN ?_ _ | refine bD ?_ | refine bA ?_ _)); exact BK197.out⟩, ⟨by repeat (first | (with_reducible first | exact HB.out | apply wA | apply wN | apply wD | refine wS ?_ GE196.out | refine wS ?_ GE197.out) | exact HB.out)⟩⟩
 case rest =>
  clear HC4
  try clear c1
  try clear c2
  try clear p2
  try clear c7
  try clear c8
  try clear c11
  try clear hcz12_0
  try clear hcz12_1
  try clear hcz12_2
  try clear hcz12_3
  try clear hcz12_4
  try clear hcz12_5
  try clear hcz12_6
  try clear hcz12_7
  try clear hcz12_8
  try clear hcz12_9
  try clear hcz9_0
  try clear hcz9_1
  try clear hcz9_2
  try clear hcz9_3
  try clear hcz9_4
  try clear hcz9_5
  try clear hcz9_6
  try clear hcz9_7
  try clear hcz9_8
  try clear hcz9_9
  try clear hfz12_0
  try clear hfz12_1
  try clear hfz12_2
  try clear hfz12_3
  try clear hfz12_4
  try clear hfz12_5
  try clear hfz12_6
  try clear hfz12_7
  try clear hfz12_8
  try clear hfz12_9
  try clear hfz9_0
  try clear hfz9_1
  try clear hfz9_2
  try clear hfz9_3
  try clear hfz9_4
  try clear hfz9_5
  try clear hfz9_6
  try clear hfz9_7
  try clear hfz9_8
  try clear hfz9_9
  obtain ⟨kq, x16_3, rfl, HA, HJ3, BK196, BK197, HB⟩ := hcut
  cases kq with
  | zero => exact absurd HA.out (by simp [rev_Apply.j0])
  | succ kj3 =>
   have H := HA.out; clear HA; simp only [rev_Apply.j0] at H; by_cases c14 : x16_3 = true
   ·
    subst c14; have H1 : (some (0, 0, (⟨#[]⟩ : ByteArray), (⟨#[]⟩ : ByteArray), false, false, ([] : List ByteArray), ([] : List ByteArray), ([] : List Bool), ([] : List Int), 1)) = some (r1, r2, r3, r4, r5, r6, r7, r8, r9, r10, r11) := by rw [if_pos rfl] at H; exact H
    clear H; have H := H1; clear H1; simp only [Option.some.injEq, Prod.mk.injEq] at H; obtain ⟨rfl, rfl, rfl, rfl, rfl, rfl, rfl, rfl, rfl, rfl, rfl⟩ := H; have hnb15 := NB197_196.out; have hnc15 := NB196_197.out; obtain ⟨hcz16_0, hcz16_1, hcz16_2, hcz16_3, hcz16_4, hcz16_5, hcz16_6, hcz16_7, hcz16_8, hcz16_9⟩ := cellS10 BK197.out; obtain ⟨hfz16_0, hfz16_1, hfz16_2, hfz16_3, hfz16_4, hfz16_5, hfz16_6, hfz16_7, hfz16_8, hfz16_9⟩ := frozS10 BK197.out; go_wp2
    refine bodyPost_ret (results_ct rfl _ _ gb197 37 #[.int .i64 0, .int .i64 0, .string (⟨#[]⟩ : ByteArray), .string (⟨#[]⟩ : ByteArray), .bool false, .bool false, .slice none 0 0, .slice none 0 0, .slice none 0 0, .slice none 0 0] (0, 0) _ rfl (by (with_reducible repeat (first | refine bN ?_ _ | refine bD ?_ | refine bA ?_ _)); apply blkS10; (with_reducible repeat (first | refine bN ?_ _ | refine bD ?_ | refine bA ?_ _)); exact BK197.out) Try.underlying37 rfl (by kernel_rfl)) rfl ?_; exact ⟨_, _, _, _, by first | rfl | (simp [errW_none, errW_some] <;> rfl) | (simp [*, errW_none, errW_some] <;> rfl), by first | exact Kd.R_nil _ _ _ _ _ | exact Kd.N_nil _ _ _ _ _ | exact Kd.V_nil _ _ _ _ _ | exact Kd.Q_nil _ _ _ _ _ | exact Kd.S_nil _ _ _ _ _, by first | exact Kd.R_nil _ _ _ _ _ | exact Kd.N_nil _ _ _ _ _ | exact Kd.V_nil _ _ _ _ _ | exact Kd.Q_nil _ _ _ _ _ | exact Kd.S_nil _ _ _ _ _, by first | exact Kd.R_nil _ _ _ _ _ | exact Kd.N_nil _ _ _ _ _ | exact Kd.V_nil _ _ _ _ _ | exact Kd.Q_nil _ _ _ _ _ | exact Kd.S_nil _ _ _ _ _, by first | exact Kd.R_nil _ _ _ _ _ | exact Kd.N_nil _ _ _ _ _ | exact Kd.V_nil _ _ _ _ _ | exact Kd.Q_nil _ _ _ _ _ | exact Kd.S_nil _ _ _ _ _, by repeat (first | (with_reducible first | exact HB.out | apply wA | apply wN | apply wD | refine wS ?_ GE196.out | refine wS ?_ GE197.out) | exact HB.out)⟩
   replace c14 := Bool.eq_false_iff.mpr c14; subst c14; have H1 : ((pace_Rate.f a0_1 (l2.length : Int)).bind fun t199 => ((rev_Entries.f kj3 a0_0 a0_1 a0_2 a0_3 a0_4 a0_5 l0_6 l0_7 l0_8 l0_9).bind fun t200 => ((rev_merged.f kj3 t200 l2).bind fun t203 => ((rev_laid.f kj3 a1 t199 a0_2 a0_3 a0_4 t203).bind fun bt206 => (some (bt206.1, bt206.2.1, bt206.2.2.1, bt206.2.2.2.1, bt206.2.2.2.2.1, bt206.2.2.2.2.2.1, bt206.2.2.2.2.2.2.1, bt206.2.2.2.2.2.2.2.1, bt206.2.2.2.2.2.2.2.2.1, bt206.2.2.2.2.2.2.2.2.2, 0)))))) = some (r1, r2, r3, r4, r5, r6, r7, r8, r9, r10, r11) := by rw [if_neg (show ¬ (false = true) by decide)] at H; exact H
   clear H; have H := H1; clear H1; replace H := Option.bind_eq_some_iff.mp H; obtain ⟨t199, A170, H⟩ := H; replace H : ((rev_Entries.f kj3 a0_0 a0_1 a0_2 a0_3 a0_4 a0_5 l0_6 l0_7 l0_8 l0_9).bind fun t200 => ((rev_merged.f kj3 t200 l2).bind fun t203 => ((rev_laid.f kj3 a1 t199 a0_2 a0_3 a0_4 t203).bind fun bt206 => (some (bt206.1, bt206.2.1, bt206.2.2.1, bt206.2.2.2.1, bt206.2.2.2.2.1, bt206.2.2.2.2.2.1, bt206.2.2.2.2.2.2.1, bt206.2.2.2.2.2.2.2.1, bt206.2.2.2.2.2.2.2.2.1, bt206.2.2.2.2.2.2.2.2.2, 0))))) = some (r1, r2, r3, r4, r5, r6, r7, r8, r9, r10, r11) := H; have A17 := K0 A170; clear A170; replace H := Option.bind_eq_some_iff.mp H; obtain ⟨t200, A180, H⟩ := H; replace H : ((rev_merged.f kj3 t200 l2).bind fun t203 => ((rev_laid.f kj3 a1 t199 a0_2 a0_3 a0_4 t203).bind fun bt206 => (some (bt206.1, bt206.2.1, bt206.2.2.1, bt206.2.2.2.1, bt206.2.2.2.2.1, bt206.2.2.2.2.2.1, bt206.2.2.2.2.2.2.1, bt206.2.2.2.2.2.2.2.1, bt206.2.2.2.2.2.2.2.2.1, bt206.2.2.2.2.2.2.2.2.2, 0)))) = some (r1, r2, r3, r4, r5, r6, r7, r8, r9, r10, r11) := H; have A18 := K0 A180; clear A180; replace H := Option.bind_eq_some_iff.mp H; obtain ⟨t203, A190, H⟩ := H; replace H : ((rev_laid.f kj3 a1 t199 a0_2 a0_3 a0_4 t203).bind fun bt206 => (some (bt206.1, bt206.2.1, bt206.2.2.1, bt206.2.2.2.1, bt206.2.2.2.2.1, bt206.2.2.2.2.2.1, bt206.2.2.2.2.2.2.1, bt206.2.2.2.2.2.2.2.1, bt206.2.2.2.2.2.2.2.2.1, bt206.2.2.2.2.2.2.2.2.2, 0))) = some (r1, r2, r3, r4, r5, r6, r7, r8, r9, r10, r11) := H; have A19 := K0 A190; clear A190; replace H := Option.bind_eq_some_iff.mp H; obtain ⟨⟨t206, t207, t208, t209, t210, t211, t212, t215, t218, t221⟩, A200, H⟩ := H; replace H : (some (t206, t207, t208, t209, t210, t211, t212, t215, t218, t221, 0)) = some (r1, r2, r3, r4, r5, r6, r7, r8, r9, r10, r11) := H; have A20 := K0 A200; clear A200; simp only [Option.some.injEq, Prod.mk.injEq] at H; obtain ⟨rfl, rfl, rfl, rfl, rfl, rfl, rfl, rfl, rfl, rfl, rfl⟩ := H; try go_wp2
   have n0_ := K0 (bD BK196.out); have n1_ := K0 (bD BK197.out); have n2_ := K0 (wD HB.out); clear BK196 BK197 HB; have BK196 := n0_; have BK197 := n1_; have HB := n2_; clear n0_ n1_ n2_; refine start_ (n := 15) (S := fun w' => w'.cell? ⟨gb196, 0, none⟩ = some (.int .i64 a0_0) ∧ w'.cell? ⟨gb196, 1, none⟩ = some (.int .i64 a0_1) ∧ w'.cell? ⟨gb196, 2, none⟩ = some (.string a0_2) ∧ w'.cell? ⟨gb196, 3, none⟩ = some (.string a0_3) ∧ w'.cell? ⟨gb196, 4, none⟩ = some (.bool a0_4) ∧ w'.cell? ⟨gb196, 5, none⟩ = some (.bool a0_5) ∧ w'.cell? ⟨gb196, 6, none⟩ = some (.slice A0_6 l0_6.length c0_6) ∧ w'.cell? ⟨gb196, 7, none⟩ = some (.slice A0_7 l0_7.length c0_7) ∧ w'.cell? ⟨gb196, 8, none⟩ = some (.slice A0_8 l0_8.length c0_8) ∧ w'.cell? ⟨gb196, 9, none⟩ = some (.slice A0_9 l0_9.length c0_9)) (ds := []) q7_0 (by kernel_rfl) rfl rfl ⟨(bC BK196.out 0).trans rfl, (bC BK196.out 1).trans rfl, (bC BK196.out 2).trans rfl, (bC BK196.out 3).trans rfl, (bC BK196.out 4).trans rfl, (bC BK196.out 5).trans rfl, (bC BK196.out 6).trans rfl, (bC BK196.out 7).trans rfl, (bC BK196.out 8).trans rfl, (bC BK196.out 9).trans rfl⟩ (fun hHeld => ?_); refine with_tabW rev_Apply.tab3 rev_Apply.bits3 (fun HT_ HW_ => ?_)
   generalize wc.drew = w21 at BK196 BK197 HB hHeld ⊢; refine pure_ (i := 0) (N := some 18) (v := ?_) (a' := ?_) q7_1 rfl rfl (any_of HT_.out (by kernel_rfl)) (fun _ _ _ h => h) (Or.inl ⟨by rfl, ?_⟩) ?_ ?_; rotate_left
   · intro w'; go_simp; with_reducible rfl
   rotate_left
   · simp only [Act.put, s1, s2, s3, i64_w, i32_w]; rfl
   refine pure_ (i := 1) (N := some 19) (v := ?_) (a' := ?_) q7_2 rfl rfl (any_of HT_.out (by kernel_rfl)) (fun _ _ _ h => h) (Or.inl ⟨by rfl, ?_⟩) ?_ ?_; rotate_left
   · intro w'; go_simp; with_reducible rfl
   rotate_left
   · simp only [Act.put, s1, s2, s3, i64_w, i32_w]; rfl
   refine pure_ (i := 3) (N := some 21) (v := ?_) (a' := ?_) q7_3 rfl rfl (any_of HT_.out (by kernel_rfl)) (fun _ _ _ h => h) (Or.inl ⟨by rfl, ?_⟩) ?_ ?_; rotate_left
   · intro w'; go_simp; with_reducible rfl
   rotate_left
   · simp only [Act.put, s1, s2, s3, i64_w, i32_w]; rfl
   refine pure_ (i := 4) (N := some 22) (v := ?_) (a' := ?_) q7_4 rfl rfl (any_of HT_.out (by kernel_rfl)) (fun _ _ _ h => h) (Or.inl ⟨by rfl, ?_⟩) ?_ ?_; rotate_left
   · intro w'; go_simp; with_reducible rfl
   rotate_left
   · simp only [Act.put, s1, s2, s3, i64_w, i32_w]; rfl
   refine pure_ (i := 6) (N := some 24) (v := ?_) (a' := ?_) q7_5 rfl rfl (any_of HT_.out (by kernel_rfl)) (fun _ _ _ h => h) (Or.inl ⟨by rfl, ?_⟩) ?_ ?_; rotate_left
   · intro w'; go_simp; with_reducible rfl
   rotate_left
   · simp only [Act.put, s1, s2, s3, i64_w, i32_w]; rfl
   refine pure_ (i := 10) (N := some 28) (v := ?_) (a' := ?_) q7_6 rfl rfl (any_of HT_.out (by kernel_rfl)) (fun _ _ _ h => h) (Or.inl ⟨by rfl, ?_⟩) ?_ ?_; rotate_left
   · intro w'; go_simp; with_reducible rfl
   rotate_left
   · simp only [Act.put, s1, s2, s3, i64_w, i32_w]; rfl
   refine take_ (i := 2) (N := some 20) (v := ?_) (a' := ?_) q7_7 rfl rfl (take_ofW HT_.out HW_.out (by kernel_rfl)) (fun _ _ _ h => h) (Or.inl ⟨by rfl, ?_⟩) hHeld ?_ ?_; rotate_left
   · rintro w' ⟨s0, s1, s2, s3, s4, s5, s6, s7, s8, s9⟩; go_simp; with_reducible rfl
   rotate_left
   · simp only [Act.put, s1, s2, s3, i64_w, i32_w]; rfl
   refine take_ (i := 7) (N := some 25) (v := ?_) (a' := ?_) q7_8 rfl rfl (take_ofW HT_.out HW_.out (by kernel_rfl)) (fun _ _ _ h => h) (Or.inl ⟨by rfl, ?_⟩) hHeld ?_ ?_; rotate_left
   · rintro w' ⟨s0, s1, s2, s3, s4, s5, s6, s7, s8, s9⟩; go_simp; with_reducible rfl
   rotate_left
   · simp only [Act.put, s1, s2, s3, i64_w, i32_w]; rfl
   refine take_ (i := 8) (N := some 26) (v := ?_) (a' := ?_) q7_9 rfl rfl (take_ofW HT_.out HW_.out (by kernel_rfl)) (fun _ _ _ h => h) (Or.inl ⟨by rfl, ?_⟩) hHeld ?_ ?_; rotate_left
   · rintro w' ⟨s0, s1, s2, s3, s4, s5, s6, s7, s8, s9⟩; go_simp; with_reducible rfl
   rotate_left
   · simp only [Act.put, s1, s2, s3, i64_w, i32_w]; rfl
   refine one_ (i := 5) (N := some 23) q7_10 rfl rfl (one_of HT_.out (by kernel_rfl)) (by decide) (fun K hK => ?_); refine goes_ Try.func56 (by kernel_rfl) rfl #[.int .i64 a0_1, .int .i64 (l2.length : Int)] (by rfl) rfl rfl (by (try simp only [List.map_toArray, List.map_cons, List.map_nil]); first | done | rfl | (simp only [lD, lT]; rfl)) ?_; with_reducible refine (pace_Rate.calls a0_1 (l2.length : Int) t199 _ A17.out).mono ?_
   rintro e w22 ⟨rfl, hb⟩; refine ⟨_, rfl, ?_⟩; have n0_ := K0 (bB (g := gb196) (o := .cells #[.int .i64 a0_0, .int .i64 a0_1, .string a0_2, .string a0_3, .bool a0_4, .bool a0_5, .slice A0_6 l0_6.length c0_6, .slice A0_7 l0_7.length c0_7, .slice A0_8 l0_8.length c0_8, .slice A0_9 l0_9.length c0_9] 37 (0, 0)) (by (with_reducible repeat (first | refine bN ?_ _ | refine bD ?_ | refine bA ?_ _)); exact BK196.out) hb); have n1_ := K0 (bB (g := gb197) (o := .cells #[.int .i64 0, .int .i64 0, .string (⟨#[]⟩ : ByteArray), .string (⟨#[]⟩ : ByteArray), .bool false, .bool false, .slice none 0 0, .slice none 0 0, .slice none 0 0, .slice none 0 0] 37 (0, 0)) (by (with_reducible repeat (first | refine bN ?_ _ | refine bD ?_ | refine bA ?_ _)); exact BK197.out) hb); have n2_ := K0 (below_step (by repeat (first | (with_reducible first | exact HB.out | apply wA | apply wN | apply wD | refine wS ?_ GE196.out | refine wS ?_ GE197.out) | exact HB.out)) hb); clear BK196 BK197 HB; have BK196 := n0_; have BK197 := n1_; have HB := n2_; clear n0_ n1_ n2_; (try clear hb)
   (try clear hb2)
   (try clear hk)
   (try clear hi)
   refine hK.out _ _ ⟨(bC BK196.out 0).trans rfl, (bC BK196.out 1).trans rfl, (bC BK196.out 2).trans rfl, (bC BK196.out 3).trans rfl, (bC BK196.out 4).trans rfl, (bC BK196.out 5).trans rfl, (bC BK196.out 6).trans rfl, (bC BK196.out 7).trans rfl, (bC BK196.out 8).trans rfl, (bC BK196.out 9).trans rfl⟩ (fun hHeld => ?_); clear hK K; refine norm_ (a' := ?_) ?_ ?_; rotate_left
   · show Act.put _ (some 23) _ = _; simp only [Act.put, s1, s2, s3, i64_w, i32_w]; rfl
   refine one_ (i := 9) (N := some 27) q7_11 rfl rfl (one_of HT_.out (by kernel_rfl)) (by decide) (fun K hK => ?_); refine goes_ Try.func53 (by kernel_rfl) rfl #[.agg #[.int .i64 a0_0, .int .i64 a0_1, .string a0_2, .string a0_3, .bool a0_4, .bool a0_5, .slice A0_6 l0_6.length c0_6, .slice A0_7 l0_7.length c0_7, .slice A0_8 l0_8.length c0_8, .slice A0_9 l0_9.length c0_9]] (by rfl) rfl rfl (by (try simp only [List.map_toArray, List.map_cons, List.map_nil]); first | done | rfl | (simp only [lD, lT]; rfl)) ?_; with_reducible refine (rev_Entries.calls kj3 a0_0 a0_1 a0_2 a0_3 a0_4 a0_5 _ _ l0_6 _ _ l0_7 _ _ l0_8 _ _ l0_9 t200 _ ?side1 ?side2 ?side3 ?side4 ?side5 ?side6 ?side7 ?side8 A18.out).mono ?_
   (case side1 => repeat (first | exact (Kd.C_below HR0_6.out HB.out) | (with_reducible refine Kd.C_alloc ?_ _) | (with_reducible refine Kd.C_drewN ?_ _) | (with_reducible refine Kd.C_drew ?_)))
   (case side2 => exact HC0_6.out)
   (case side3 => repeat (first | exact (Kd.C_below HR0_7.out HB.out) | (with_reducible refine Kd.C_alloc ?_ _) | (with_reducible refine Kd.C_drewN ?_ _) | (with_reducible refine Kd.C_drew ?_)))
   (case side4 => exact HC0_7.out)
   (case side5 => repeat (first | exact (Kd.C_below HR0_8.out HB.out) | (with_reducible refine Kd.C_alloc ?_ _) | (with_reducible refine Kd.C_drewN ?_ _) | (with_reducible refine Kd.C_drew ?_)))
   (case side6 => exact HC0_8.out)
   (case side7 => repeat (first | exact (Kd.C_below HR0_9.out HB.out) | (with_reducible refine Kd.C_alloc ?_ _) | (with_reducible refine Kd.C_drewN ?_ _) | (with_reducible refine Kd.C_drew ?_)))
   (case side8 => exact HC0_9.out)
   rintro e w23 ⟨v201, rfl, ho0, hb⟩; refine ⟨_, rfl, ?_⟩; have n0_ := K0 (Kd.R_lower ho0 (below_size (by repeat (first | (with_reducible first | exact HB.out | apply wA | apply wN | apply wD | refine wS ?_ GE196.out | refine wS ?_ GE197.out) | exact HB.out)))); have n1_ := K0 (bB (g := gb196) (o := .cells #[.int .i64 a0_0, .int .i64 a0_1, .string a0_2, .string a0_3, .bool a0_4, .bool a0_5, .slice A0_6 l0_6.length c0_6, .slice A0_7 l0_7.length c0_7, .slice A0_8 l0_8.length c0_8, .slice A0_9 l0_9.length c0_9] 37 (0, 0)) (by (with_reducible repeat (first | refine bN ?_ _ | refine bD ?_ | refine bA ?_ _)); exact BK196.out) hb); have n2_ := K0 (bB (g := gb197) (o := .cells #[.int .i64 0, .int .i64 0, .string (⟨#[]⟩ : ByteArray), .string (⟨#[]⟩ : ByteArray), .bool false, .bool false, .slice none 0 0, .slice none 0 0, .slice none 0 0, .slice none 0 0] 37 (0, 0)) (by (with_reducible repeat (first | refine bN ?_ _ | refine bD ?_ | refine bA ?_ _)); exact BK197.out) hb); have n3_ := K0 (below_step (by repeat (first | (with_reducible first | exact HB.out | apply wA | apply wN | apply wD | refine wS ?_ GE196.out | refine wS ?_ GE197.out) | exact HB.out)) hb); clear BK196 BK197 HB; have HO202 := n0_; have BK196 := n1_; have BK197 := n2_; have HB := n3_; clear n0_ n1_ n2_ n3_; (try clear hb)
   (try clear hb2)
   (try clear hk)
   (try clear hi)
   (try clear ho0)
   obtain ⟨Ao24, co24, eo24⟩ := Kd.R_slice HO202.out; (first | subst eo24 | (injection eo24 with f1_ f2_ f3_; have f4_ := f1_.symm; have f5_ := f3_.symm; clear f1_ f2_ f3_; subst f4_; subst f5_))
   refine hK.out _ _ ⟨(bC BK196.out 0).trans rfl, (bC BK196.out 1).trans rfl, (bC BK196.out 2).trans rfl, (bC BK196.out 3).trans rfl, (bC BK196.out 4).trans rfl, (bC BK196.out 5).trans rfl, (bC BK196.out 6).trans rfl, (bC BK196.out 7).trans rfl, (bC BK196.out 8).trans rfl, (bC BK196.out 9).trans rfl⟩ (fun hHeld => ?_); clear hK K; refine norm_ (a' := ?_) ?_ ?_; rotate_left
   · show Act.put _ (some 27) _ = _; simp only [Act.put, s1, s2, s3, i64_w, i32_w]; rfl
   refine one_ (i := 11) (N := some 29) q7_12 rfl rfl (one_of HT_.out (by kernel_rfl)) (by decide) (fun K hK => ?_); refine goes_ Try.func57 (by kernel_rfl) rfl #[.slice Ao24 t200.length co24, .slice A2 l2.length c2] (by rfl) rfl rfl (by (try simp only [List.map_toArray, List.map_cons, List.map_nil]); first | done | rfl | (simp only [lD, lT]; rfl)) ?_; with_reducible refine (rev_merged.calls kj3 (fun k_ => some k_ = (.slice Ao24 t200.length co24 : Value).ownBlock) _ _ t200 (fun k_ => k_ < w.heap.size) _ _ l2 t203 _ ?side1 ?side2 A19.out).mono ?_
   (case side1 => exact Kd.R_V (Kd.R_tight rfl (Kd.R_types (Kd.R_types (HO202.out) BK196.out (by decide)) BK197.out (by decide))))
   (case side2 => exact Kd.V_mk HC2.out (Kd.F_below (Kd.C_F k114_heap HR2.out) (by repeat (first | (with_reducible first | exact HB.out | apply wA | apply wN | apply wD | refine wS ?_ GE196.out | refine wS ?_ GE197.out) | exact HB.out))))
   rintro e w25 ⟨v204, rfl, ho0, hb⟩; refine ⟨_, rfl, ?_⟩; have n0_ := K0 (Kd.R_elder' (by (with_reducible repeat (first | apply rA | apply rN | apply rD)); exact HO202.out) (Kd.R_base ho0) hb); have n1_ := K0 (Kd.R_lower (Kd.R_new' (Kd.R_mono (ok' := fun k_ => True) ho0 (fun _ hk_ => trivial)) (Kd.R_lt (by (with_reducible repeat (first | apply rA | apply rN | apply rD)); exact HO202.out))) (below_size (by repeat (first | (with_reducible first | exact HB.out | apply wA | apply wN | apply wD | refine wS ?_ GE196.out | refine wS ?_ GE197.out) | exact HB.out)))); have n2_ := K0 (bB (g := gb196) (o := .cells #[.int .i64 a0_0, .int .i64 a0_1, .string a0_2, .string a0_3, .bool a0_4, .bool a0_5, .slice A0_6 l0_6.length c0_6, .slice A0_7 l0_7.length c0_7, .slice A0_8 l0_8.length c0_8, .slice A0_9 l0_9.length c0_9] 37 (0, 0)) (by (with_reducible repeat (first | refine bN ?_ _ | refine bD ?_ | refine bA ?_ _)); exact BK196.out) hb); have n3_ := K0 (bB (g := gb197) (o := .cells #[.int .i64 0, .int .i64 0, .string (⟨#[]⟩ : ByteArray), .string (⟨#[]⟩ : ByteArray), .bool false, .bool false, .slice none 0 0, .slice none 0 0, .slice none 0 0, .slice none 0 0] 37 (0, 0)) (by (with_reducible repeat (first | refine bN ?_ _ | refine bD ?_ | refine bA ?_ _)); exact BK197.out) hb); have n4_ := K0 (below_step (by repeat (first | (with_reducible first | exact HB.out | apply wA | apply wN | apply wD | refine wS ?_ GE196.out | refine wS ?_ GE197.out) | exact HB.out)) hb); clear HO202 BK196 BK197 HB; have HO202 := n0_; have HO205 := n1_; have BK196 := n2_; have BK197 := n3_; have HB := n4_; clear n0_ n1_ n2_ n3_ n4_; (try clear hb)
   (try clear hb2)
   (try clear hk)
   (try clear hi)
   (try clear ho0)
   obtain ⟨Ao26, co26, eo26⟩ := Kd.R_slice HO205.out; (first | subst eo26 | (injection eo26 with f1_ f2_ f3_; have f4_ := f1_.symm; have f5_ := f3_.symm; clear f1_ f2_ f3_; subst f4_; subst f5_))
   refine hK.out _ _ ⟨(bC BK196.out 0).trans rfl, (bC BK196.out 1).trans rfl, (bC BK196.out 2).trans rfl, (bC BK196.out 3).trans rfl, (bC BK196.out 4).trans rfl, (bC BK196.out 5).trans rfl, (bC BK196.out 6).trans rfl, (bC BK196.out 7).trans rfl, (bC BK196.out 8).trans rfl, (bC BK196.out 9).trans rfl⟩ (fun hHeld => ?_); clear hK K; refine norm_ (a' := ?_) ?_ ?_; rotate_left
   · show Act.put _ (some 29) _ = _; simp only [Act.put, s1, s2, s3, i64_w, i32_w]; rfl
   refine one_ (i := 12) (N := some 30) q7_13 rfl rfl (one_of HT_.out (by kernel_rfl)) (by decide) (fun K hK => ?_); refine goes_ Try.func55 (by kernel_rfl) rfl #[.int .i64 a1, .int .i64 t199, .agg #[.string a0_2, .string a0_3, .bool a0_4], .slice Ao26 t203.length co26] (by rfl) rfl rfl (by (try simp only [List.map_toArray, List.map_cons, List.map_nil]); first | done | rfl | (simp only [lD, lT]; rfl)) ?_; with_reducible refine (rev_laid.calls kj3 a1 t199 a0_2 a0_3 a0_4 _ _ t203 t206 t207 t208 t209 t210 t211 t212 t215 t218 t221 _ ?side1 ?side2 A20.out).mono ?_
   (case side1 => repeat (first | exact (Kd.R_reads' HO205.out).2.2 | (with_reducible refine Kd.C_alloc ?_ _) | (with_reducible refine Kd.C_drewN ?_ _) | (with_reducible refine Kd.C_drew ?_)))
   (case side2 => exact (Kd.R_reads' HO205.out).2.1)
   rintro e w27 ⟨v213, v216, v219, v222, rfl, ho0, ho1, ho2, ho3, hb⟩; refine ⟨_, rfl, ?_⟩; have n0_ := K0 (rB (by (with_reducible repeat (first | apply rA | apply rN | apply rD)); exact HO202.out) hb); have n1_ := K0 (rB (by (with_reducible repeat (first | apply rA | apply rN | apply rD)); exact HO205.out) hb); have n2_ := K0 (Kd.R_lower ho0 (below_size (by repeat (first | (with_reducible first | exact HB.out | apply wA | apply wN | apply wD | refine wS ?_ GE196.out | refine wS ?_ GE197.out) | exact HB.out)))); have n3_ := K0 (Kd.R_lower ho1 (below_size (by repeat (first | (with_reducible first | exact HB.out | apply wA | apply wN | apply wD | refine wS ?_ GE196.out | refine wS ?_ GE197.out) | exact HB.out)))); have n4_ := K0 (Kd.R_lower ho2 (below_size (by repeat (first | (with_reducible first | exact HB.out | apply wA | apply wN | apply wD | refine wS ?_ GE196.out | refine wS ?_ GE197.out) | exact HB.out)))); have n5_ := K0 (Kd.R_lower ho3 (below_size (by repeat (first | (with_reducible first | exact HB.out | apply wA | apply wN | apply wD | refine wS ?_ GE196.out | refine wS ?_ GE197.out) | exact HB.out)))); have n6_ := K0 (bB (g := gb196) (o := .cells #[.int .i64 a0_0, .int .i64 a0_1, .string a0_2, .string a0_3, .bool a0_4, .bool a0_5, .slice A0_6 l0_6.length c0_6, .slice A0_7 l0_7.length c0_7, .slice A0_8 l0_8.length c0_8, .slice A0_9 l0_9.length c0_9] 37 (0, 0)) (by (with_reducible repeat (first | refine bN ?_ _ | refine bD ?_ | refine bA ?_ _)); exact BK196.out) hb); have n7_ := K0 (bB (g := gb197) (o := .cells #[.int .i64 0, .int .i64 0, .string (⟨#[]⟩ : ByteArray), .string (⟨#[]⟩ : ByteArray), .bool false, .bool false, .slice none 0 0, .slice none 0 0, .slice none 0 0, .slice none 0 0] 37 (0, 0)) (by (with_reducible repeat (first | refine bN ?_ _ | refine bD ?_ | refine bA ?_ _)); exact BK197.out) hb); have n8_ := K0 (below_step (by repeat (first | (with_reducible first | exact HB.out | apply wA | apply wN | apply wD | refine wS ?_ GE196.out | refine wS ?_ GE197.out) | exact HB.out)) hb); clear HO202 HO205 BK196 BK197 HB; have HO202 := n0_; have HO205 := n1_; have HO214 := n2_; have HO217 := n3_; have HO220 := n4_; have HO223 := n5_; have BK196 := n6_; have BK197 := n7_; have HB := n8_; clear n0_ n1_ n2_ n3_ n4_ n5_ n6_ n7_ n8_; (try clear hb)
   (try clear hb2)
   (try clear hk)
   (try clear hi)
   (try clear ho0)
   (try clear ho1)
   (try clear ho2)
   (try clear ho3)
   obtain ⟨Ao34, co34, eo34⟩ := Kd.R_slice HO214.out; (first | subst eo34 | (injection eo34 with f1_ f2_ f3_; have f4_ := f1_.symm; have f5_ := f3_.symm; clear f1_ f2_ f3_; subst f4_; subst f5_))
   obtain ⟨Ao36, co36, eo36⟩ := Kd.R_slice HO217.out; (first | subst eo36 | (injection eo36 with f1_ f2_ f3_; have f4_ := f1_.symm; have f5_ := f3_.symm; clear f1_ f2_ f3_; subst f4_; subst f5_))
   obtain ⟨Ao38, co38, eo38⟩ := Kd.R_slice HO220.out; (first | subst eo38 | (injection eo38 with f1_ f2_ f3_; have f4_ := f1_.symm; have f5_ := f3_.symm; clear f1_ f2_ f3_; subst f4_; subst f5_))
   obtain ⟨Ao40, co40, eo40⟩ := Kd.R_slice HO223.out; (first | subst eo40 | (injection eo40 with f1_ f2_ f3_; have f4_ := f1_.symm; have f5_ := f3_.symm; clear f1_ f2_ f3_; subst f4_; subst f5_))
   refine hK.out _ _ ⟨(bC BK196.out 0).trans rfl, (bC BK196.out 1).trans rfl, (bC BK196.out 2).trans rfl, (bC BK196.out 3).trans rfl, (bC BK196.out 4).trans rfl, (bC BK196.out 5).trans rfl, (bC BK196.out 6).trans rfl, (bC BK196.out 7).trans rfl, (bC BK196.out 8).trans rfl, (bC BK196.out 9).trans rfl⟩ (fun hHeld => ?_); clear hK K; refine norm_ (a' := ?_) ?_ ?_; rotate_left
   · show Act.put _ (some 30) _ = _; simp only [Act.put, s1, s2, s3, i64_w, i32_w]; rfl
   refine one_ (i := 13) (N := none) q7_14 rfl rfl (one_of HT_.out (by kernel_rfl)) (by decide) (fun K hK => ?_); have hs28 : w27.cell? ⟨gb197, 0, none⟩ = some (.int .i64 0) := (bC BK197.out 0).trans rfl; have hfs28 := bF BK197.out 0; have hns28_0 := NB196_197.out; have hms28_0 := NB197_196.out; have hs29 : w27.cell? ⟨gb197, 1, none⟩ = some (.int .i64 0) := (bC BK197.out 1).trans rfl; have hfs29 := bF BK197.out 1; have hns29_0 := NB196_197.out; have hms29_0 := NB197_196.out; have hs30 : w27.cell? ⟨gb197, 2, none⟩ = some (.string (⟨#[]⟩ : ByteArray)) := (bC BK197.out 2).trans rfl; have hfs30 := bF BK197.out 2; have hns30_0 := NB196_197.out; have hms30_0 := NB197_196.out; have hs31 : w27.cell? ⟨gb197, 3, none⟩ = some (.string (⟨#[]⟩ : ByteArray)) := (bC BK197.out 3).trans rfl; have hfs31 := bF BK197.out 3; have hns31_0 := NB196_197.out; have hms31_0 := NB197_196.out; have hs32 : w27.cell? ⟨gb197, 4, none⟩ = some (.bool false) := (bC BK197.out 4).trans rfl; have hfs32 := bF BK197.out 4; have hns32_0 := NB196_197.out; have hms32_0 := NB197_196.out; have hs33 : w27.cell? ⟨gb197, 5, none⟩ = some (.bool false) := (bC BK197.out 5).trans rfl; have hfs33 := bF BK197.out 5; have hns33_0 := NB196_197.out; have hms33_0 := NB197_196.out; have hs35 : w27.cell? ⟨gb197, 6, none⟩ = some (.slice none 0 0) := (bC BK197.out 6).trans rfl; have hfs35 := bF BK197.out 6; have hns35_0 := NB196_197.out; have hms35_0 := NB197_196.out; have hs37 : w27.cell? ⟨gb197, 7, none⟩ = some (.slice none 0 0) := (bC BK197.out 7).trans rfl; have hfs37 := bF BK197.out 7; have hns37_0 := NB196_197.out; have hms37_0 := NB197_196.out; have hs39 : w27.cell? ⟨gb197, 8, none⟩ = some (.slice none 0 0) := (bC BK197.out 8).trans rfl; have hfs39 := bF BK197.out 8; have hns39_0 := NB196_197.out; have hms39_0 := NB197_196.out; have hs41 : w27.cell? ⟨gb197, 9, none⟩ = some (.slice none 0 0) := (bC BK197.out 9).trans rfl; have hfs41 := bF BK197.out 9; have hns41_0 := NB196_197.out; have hms41_0 := NB197_196.out; refine skip_ (w1 := ?_) (by rfl) rfl ?_ ?_; rotate_left
   · go_simp; rfl
   refine hK.out _ _ ⟨(cfar10 NB196_197.out (hHeld.1)), (cfar10 NB196_197.out (hHeld.2.1)), (cfar10 NB196_197.out (hHeld.2.2.1)), (cfar10 NB196_197.out (hHeld.2.2.2.1)), (cfar10 NB196_197.out (hHeld.2.2.2.2.1)), (cfar10 NB196_197.out (hHeld.2.2.2.2.2.1)), (cfar10 NB196_197.out (hHeld.2.2.2.2.2.2.1)), (cfar10 NB196_197.out (hHeld.2.2.2.2.2.2.2.1)), (cfar10 NB196_197.out (hHeld.2.2.2.2.2.2.2.2.1)), (cfar10 NB196_197.out (hHeld.2.2.2.2.2.2.2.2.2))⟩ (fun hHeld => ?_); clear hK K; refine pure_ (i := 14) (N := some 7) (v := ?_) (a' := ?_) q7_15 rfl rfl (any_of HT_.out (by kernel_rfl)) (fun _ _ _ h => h) (Or.inl ⟨by rfl, ?_⟩) ?_ ?_; rotate_left
   · intro w'; go_simp; with_reducible rfl
   rotate_left
   · simp only [Act.put, s1, s2, s3, i64_w, i32_w]; rfl
   refine done_ (done_of HT_.out (by kernel_rfl)) ?_; try go_wp2
   refine bodyPost_ret (results_ct rfl _ _ gb197 37 #[.int .i64 t206, .int .i64 t207, .string t208, .string t209, .bool t210, .bool t211, .slice Ao34 t212.length co34, .slice Ao36 t215.length co36, .slice Ao38 t218.length co38, .slice Ao40 t221.length co40] (0, 0) _ rfl (by (with_reducible repeat (first | refine bN ?_ _ | refine bD ?_ | refine bA ?_ _)); apply blkS10; (with_reducible repeat (first | refine bN ?_ _ | refine bD ?_ | refine bA ?_ _)); exact BK197.out) Try.underlying37 rfl (by kernel_rfl)) rfl ?_; exact ⟨_, _, _, _, by first | rfl | (simp [errW_none, errW_some] <;> rfl) | (simp [*, errW_none, errW_some] <;> rfl), by (with_reducible repeat (first | apply rA | apply rN | apply rD)); exact Kd.R_mono (Kd.farS10 (Kd.R_types HO214.out BK197.out (by decide)) (fun _ hk => hk.2)) (fun _ hk => hk.1), by (with_reducible repeat (first | apply rA | apply rN | apply rD)); exact Kd.R_mono (Kd.farS10 (Kd.R_types HO217.out BK197.out (by decide)) (fun _ hk => hk.2)) (fun _ hk => hk.1), by (with_reducible repeat (first | apply rA | apply rN | apply rD)); exact Kd.R_mono (Kd.farS10 (Kd.R_types HO220.out BK197.out (by decide)) (fun _ hk => hk.2)) (fun _ hk => trivial), by (with_reducible repeat (first | apply rA | apply rN | apply rD)); exact Kd.R_mono (Kd.farS10 (Kd.R_types HO223.out BK197.out (by decide)) (fun _ hk => hk.2)) (fun _ hk => trivial), by repeat (first | (with_reducible first | exact HB.out | apply wA | apply wN | apply wD | refine wS ?_ GE196.out | refine wS ?_ GE197.out) | exact HB.out)⟩
/-! ### probe_Find: function 65 -/
def probe_Find.l0 : Nat → List Int → List ByteArray → ByteArray → Int → Int → Option (Int × Int)
 | 0, _, _, _, _, _ => none
 | k + 1, x0, x1, x2, x8, x9 => if x9 ≤ (x0.length : Int) then (if 0 ≤ x8 then (if x8 < (x0.length : Int) then (if (rd x0 x8) = 0 then (some ((-1), x9)) else (if (rd x0 x8) > 0 then (if (rd x0 x8) ≤ (x1.length : Int) then (if 0 ≤ (wrap64 ((rd x0 x8) - 1)) then (if (wrap64 ((rd x0 x8) - 1)) < (x1.length : Int) then (if (rdOf ByteArray.empty x1 (wrap64 ((rd x0 x8) - 1))).toList = x2.toList then (some (wrap64 ((rd x0 x8) - 1), x9)) else (probe_Find.l0 k x0 x1 x2 (Go.bits .and .i64 (wrap64 (x8 + 1)) (wrap64 ((x0.length : Int) - 1))) (wrap64 (x9 + 1)))) else (none)) else (none)) else (probe_Find.l0 k x0 x1 x2 (Go.bits .and .i64 (wrap64 (x8 + 1)) (wrap64 ((x0.length : Int) - 1))) (wrap64 (x9 + 1)))) else (probe_Find.l0 k x0 x1 x2 (Go.bits .and .i64 (wrap64 (x8 + 1)) (wrap64 ((x0.length : Int) - 1))) (wrap64 (x9 + 1))))) else (none)) else (none)) else (some ((-1), (x0.length : Int)))
def probe_Find.f (k : Nat) (l0 : List Int) (l1 : List ByteArray) (a2 : ByteArray) : Option (Int × Int) := (probe_Size.f k (l1.length : Int)).bind fun t224 => (if (l0.length : Int) = t224 then ((probe_first.f k (l0.length : Int) a2).bind fun t225 => (probe_Find.l0 k l0 l1 a2 t225 1)) else (some ((-1), 0)))
set_option maxHeartbeats 8000000 in
set_option maxRecDepth 100000 in
theorem probe_Find.calls (k : Nat) (A0 : Option Addr) (c0 : Nat) (l0 : List Int) (A1 : Option Addr) (c1 : Nat) (l1 : List ByteArray) (a2 : ByteArray) (r1 : Int) (r2 : Int) (w : World) (hr0 : Kd.C (Kd.int .i64) w A0 l0.length l0) (hc0 : l0.length ≤ c0) (hr1 : Kd.C Kd.string w A1 l1.length l1) (hc1 : l1.length ≤ c1) (h : probe_Find.f k l0 l1 a2 = some (r1, r2)) :
  Calls Try.prog 65 #[.slice A0 l0.length c0, .slice A1 l1.length c1, .string a2] w fun e w' => e = .returned (.tuple #[.int .i64 r1, .int .i64 r2]) ∧ Drawn0 w w' := by
 have HR0 := K0 hr0
 have HC0 := K0 hc0
 clear hr0 hc0
 have HR1 := K0 hr1
 have HC1 := K0 hc1
 clear hr1 hc1
 have H : ((probe_Size.f k (l1.length : Int)).bind fun t224 => (if (l0.length : Int) = t224 then ((probe_first.f k (l0.length : Int) a2).bind fun t225 => (probe_Find.l0 k l0 l1 a2 t225 1)) else (some ((-1), 0)))) = some (r1, r2) := h
 clear h
 replace H := Option.bind_eq_some_iff.mp H
 obtain ⟨t224, A40, H⟩ := H
 replace H : (if (l0.length : Int) = t224 then ((probe_first.f k (l0.length : Int) a2).bind fun t225 => (probe_Find.l0 k l0 l1 a2 t225 1)) else (some ((-1), 0))) = some (r1, r2) := H
 have A4 := K0 A40
 clear A40
 by_cases c5 : (l0.length : Int) = t224
 ·
  rw [if_pos c5] at H
  have c5b0 : ((l0.length : Int) == t224) = true := beq_iff_eq.mpr c5
  have c5b1 : ((l0.length : Int) != t224) = false := bne_eq_false_iff_eq.mpr c5
  clear c5
  replace H := Option.bind_eq_some_iff.mp H
  obtain ⟨t225, A60, H⟩ := H
  replace H : (probe_Find.l0 k l0 l1 a2 t225 1) = some (r1, r2) := H
  have A6 := K0 A60
  clear A60
  have H' := K0 H
  clear H
  go_enter Try.func65, Try.ntmps65
  go_wp2_with (first | ((with_reducible refine gate_callee (f := 91) rfl ?_); refine goesL_ (some 15) rfl rfl Try.func91 (by kernel_rfl) rfl #[.int .i64 (l1.length : Int)] rfl (by (try simp only [List.map_toArray, List.map_cons, List.map_nil]); first | done | rfl | (simp only [lD, lT]; rfl)) ?_; (with_reducible refine (probe_Size.calls k (l1.length : Int) t224 _ A4.out).mono ?_); rintro e w' ⟨rfl, ⟨nd, rfl⟩⟩; refine ⟨_, rfl, ?_⟩) | ((with_reducible refine gate_callee (f := 92) rfl ?_); refine goesL_ (some 20) rfl rfl Try.func92 (by kernel_rfl) rfl #[.int .i64 (l0.length : Int), .string a2] rfl (by (try simp only [List.map_toArray, List.map_cons, List.map_nil]); first | done | rfl | (simp only [lD, lT]; rfl)) ?_; (with_reducible refine (probe_first.calls k (l0.length : Int) a2 t225 _ A6.out).mono ?_); rintro e w' ⟨rfl, ⟨nd, rfl⟩⟩; refine ⟨_, rfl, ?_⟩))
  go_loopg [8, 9] k (fun kq v8 v9 w' => ∃ (x8_1 : Int) (x9_1 : Int), v8 = .int .i64 x8_1 ∧ v9 = .int .i64 x9_1 ∧ Aside0 (probe_Find.l0 kq l0 l1 a2 x8_1 x9_1 = some (r1, r2)) ∧ Aside0 (kq ≤ k) ∧ Drawn0 w w')
  case atStart => exact ⟨(t225), (1), (by first | rfl | (simp; done) | (simp [*]; done)), (by first | rfl | (simp; done) | (simp [*]; done)), H', ⟨Nat.le_refl _⟩, by repeat (first | exact Drawn0.refl _ | apply Drawn0.step)⟩
  case round =>
   clear H'; try clear c1
   try clear p2
   try clear c5
   try clear c5b0
   try clear c5b1
   try clear c6
   obtain ⟨x8_1, x9_1, rfl, rfl, HA, HK1, ⟨m1, rfl⟩⟩ := hrel
   cases gk with
   | zero => exact absurd HA.out (by simp [probe_Find.l0])
   | succ k1 =>
    have H := HA.out; clear HA; simp only [probe_Find.l0] at H; by_cases c7 : x9_1 ≤ (l0.length : Int)
    ·
     rw [if_pos c7] at H; have c7b0 : decide (x9_1 ≤ (l0.length : Int)) = true := dT c7; clear c7; by_cases c8 : 0 ≤ x8_1
     ·
      rw [if_pos c8] at H; have c8b0 : decide (0 ≤ x8_1) = true := dT c8; clear c8; by_cases c9 : x8_1 < (l0.length : Int)
      ·
       rw [if_pos c9] at H; have c9b0 : decide (x8_1 < (l0.length : Int)) = true := dT c9; clear c9; by_cases c10 : (rd l0 x8_1) = 0
       ·
        rw [if_pos c10] at H; have c10b0 : ((rd l0 x8_1) == 0) = true := beq_iff_eq.mpr c10; have c10b1 : ((rd l0 x8_1) != 0) = false := bne_eq_false_iff_eq.mpr c10; clear c10; simp only [Option.some.injEq, Prod.mk.injEq] at H; obtain ⟨rfl, rfl⟩ := H; have p226 : 0 ≤ (x8_1 : Int) := oT (by first | (with_reducible assumption) | assumption); have q226 : x8_1 < (l0.length : Int) := oT (by first | (with_reducible assumption) | assumption); obtain ⟨ad226, e226, hx226_0⟩ := Kd.at_int HR0.out x8_1 p226 q226
        cases e226; replace p226 := eq_true p226; replace q226 := eq_true q226; go_wp2
        go_ret2
        exact ⟨by first | rfl | (simp; done) | (simp [*]; done), by repeat (first | exact Drawn0.refl _ | apply Drawn0.step)⟩
       rw [if_neg c10] at H; have c10b0 : ((rd l0 x8_1) == 0) = false := beq_eq_false_iff_ne.mpr c10; have c10b1 : ((rd l0 x8_1) != 0) = true := bne_iff_ne.mpr c10; by_cases c11 : (rd l0 x8_1) > 0
       ·
        rw [if_pos c11] at H; have c11b0 : decide (0 < (rd l0 x8_1)) = true := dT c11; clear c11; by_cases c12 : (rd l0 x8_1) ≤ (l1.length : Int)
        ·
         rw [if_pos c12] at H; have c12b0 : decide ((rd l0 x8_1) ≤ (l1.length : Int)) = true := dT c12; clear c12; obtain ⟨ji13, hji13⟩ : ∃ j_ : Int, (wrap64 ((rd l0 x8_1) - 1)) = j_ := ⟨_, rfl⟩; replace H : (if 0 ≤ (ji13) then (if (ji13) < (l1.length : Int) then (if (rdOf ByteArray.empty l1 (ji13)).toList = a2.toList then (some (ji13, x9_1)) else (probe_Find.l0 k1 l0 l1 a2 (Go.bits .and .i64 (wrap64 (x8_1 + 1)) (wrap64 ((l0.length : Int) - 1))) (wrap64 (x9_1 + 1)))) else (none)) else (none)) = some (r1, r2) := by first | (rw [hji13] at H; exact H) | (simp only [hji13] at H ⊢; exact H)
         have hji13w : (IntKind.i64.wrap ((rd l0 x8_1) - 1)) = ji13 := (i64_w _).trans hji13; by_cases c14 : 0 ≤ (ji13)
         ·
          rw [if_pos c14] at H; have c14b0 : decide (0 ≤ (ji13)) = true := dT c14; clear c14; by_cases c15 : (ji13) < (l1.length : Int)
          ·
           rw [if_pos c15] at H; have c15b0 : decide ((ji13) < (l1.length : Int)) = true := dT c15; clear c15; by_cases c16 : (rdOf ByteArray.empty l1 (ji13)).toList = a2.toList
           ·
            rw [if_pos c16] at H; have c16b0 : ((rdOf ByteArray.empty l1 (ji13)).toList == a2.toList) = true := beq_iff_eq.mpr c16; have c16b1 : ((rdOf ByteArray.empty l1 (ji13)).toList != a2.toList) = false := bne_eq_false_iff_eq.mpr c16; clear c16; simp only [Option.some.injEq, Prod.mk.injEq] at H; obtain ⟨rfl, rfl⟩ := H; have p226 : 0 ≤ (x8_1 : Int) := oT (by first | (with_reducible assumption) | assumption); have q226 : x8_1 < (l0.length : Int) := oT (by first | (with_reducible assumption) | assumption); obtain ⟨ad226, e226, hx226_0⟩ := Kd.at_int HR0.out x8_1 p226 q226
            cases e226; replace p226 := eq_true p226; replace q226 := eq_true q226; have p227 : 0 ≤ ((ji13) : Int) := oT (by first | (with_reducible assumption) | assumption); have q227 : (ji13) < (l1.length : Int) := oT (by first | (with_reducible assumption) | assumption); obtain ⟨ad227, e227, hx227_0⟩ := Kd.at_string HR1.out (ji13) p227 q227
            cases e227; replace p227 := eq_true p227; replace q227 := eq_true q227; go_wp2
            go_ret2
            exact ⟨by first | rfl | (simp; done) | (simp only [← hji13] <;> (first | rfl | simp)) | (simp [*]; done), by repeat (first | exact Drawn0.refl _ | apply Drawn0.step)⟩
           rw [if_neg c16] at H; have c16b0 : ((rdOf ByteArray.empty l1 (ji13)).toList == a2.toList) = false := beq_eq_false_iff_ne.mpr c16; have c16b1 : ((rdOf ByteArray.empty l1 (ji13)).toList != a2.toList) = true := bne_iff_ne.mpr c16; have H' := K0 H; clear H; have p226 : 0 ≤ (x8_1 : Int) := oT (by first | (with_reducible assumption) | assumption); have q226 : x8_1 < (l0.length : Int) := oT (by first | (with_reducible assumption) | assumption); obtain ⟨ad226, e226, hx226_0⟩ := Kd.at_int HR0.out x8_1 p226 q226
           cases e226; replace p226 := eq_true p226; replace q226 := eq_true q226; have p227 : 0 ≤ ((ji13) : Int) := oT (by first | (with_reducible assumption) | assumption); have q227 : (ji13) < (l1.length : Int) := oT (by first | (with_reducible assumption) | assumption); obtain ⟨ad227, e227, hx227_0⟩ := Kd.at_string HR1.out (ji13) p227 q227
           cases e227; replace p227 := eq_true p227; replace q227 := eq_true q227; go_wp2
           go_roundg k1
           case measure => have := HK1.out; omega
           case rel => exact ⟨(Go.bits .and .i64 (wrap64 (x8_1 + 1)) (wrap64 ((l0.length : Int) - 1))), (wrap64 (x9_1 + 1)), (by first | rfl | (simp; done) | (simp [*]; done)), (by first | rfl | (simp; done) | (simp [*]; done)), H', ⟨by have := HK1.out; omega⟩, by repeat (first | exact Drawn0.refl _ | apply Drawn0.step)⟩
          rw [if_neg c15] at H; exact absurd H (by simp)
         rw [if_neg c14] at H; exact absurd H (by simp)
        rw [if_neg c12] at H; have c12b0 : decide ((rd l0 x8_1) ≤ (l1.length : Int)) = false := dF c12; clear c12; have H' := K0 H; clear H; have p226 : 0 ≤ (x8_1 : Int) := oT (by first | (with_reducible assumption) | assumption); have q226 : x8_1 < (l0.length : Int) := oT (by first | (with_reducible assumption) | assumption); obtain ⟨ad226, e226, hx226_0⟩ := Kd.at_int HR0.out x8_1 p226 q226
        cases e226; replace p226 := eq_true p226; replace q226 := eq_true q226; go_wp2
        go_roundg k1
        case measure => have := HK1.out; omega
        case rel => exact ⟨(Go.bits .and .i64 (wrap64 (x8_1 + 1)) (wrap64 ((l0.length : Int) - 1))), (wrap64 (x9_1 + 1)), (by first | rfl | (simp; done) | (simp [*]; done)), (by first | rfl | (simp; done) | (simp [*]; done)), H', ⟨by have := HK1.out; omega⟩, by repeat (first | exact Drawn0.refl _ | apply Drawn0.step)⟩
       rw [if_neg c11] at H; have c11b0 : decide (0 < (rd l0 x8_1)) = false := dF c11; clear c11; have H' := K0 H; clear H; have p226 : 0 ≤ (x8_1 : Int) := oT (by first | (with_reducible assumption) | assumption); have q226 : x8_1 < (l0.length : Int) := oT (by first | (with_reducible assumption) | assumption); obtain ⟨ad226, e226, hx226_0⟩ := Kd.at_int HR0.out x8_1 p226 q226
       cases e226; replace p226 := eq_true p226; replace q226 := eq_true q226; go_wp2
       go_roundg k1
       case measure => have := HK1.out; omega
       case rel => exact ⟨(Go.bits .and .i64 (wrap64 (x8_1 + 1)) (wrap64 ((l0.length : Int) - 1))), (wrap64 (x9_1 + 1)), (by first | rfl | (simp; done) | (simp [*]; done)), (by first | rfl | (simp; done) | (simp [*]; done)), H', ⟨by have := HK1.out; omega⟩, by repeat (first | exact Drawn0.refl _ | apply Drawn0.step)⟩
      rw [if_neg c9] at H; exact absurd H (by simp)
     rw [if_neg c8] at H; exact absurd H (by simp)
    rw [if_neg c7] at H; have c7b0 : decide (x9_1 ≤ (l0.length : Int)) = false := dF c7; clear c7; simp only [Option.some.injEq, Prod.mk.injEq] at H; obtain ⟨rfl, rfl⟩ := H; go_wp2
    go_ret2
    exact ⟨by first | rfl | (simp; done) | (simp [*]; done), by repeat (first | exact Drawn0.refl _ | apply Drawn0.step)⟩
 rw [if_neg c5] at H
 have c5b0 : ((l0.length : Int) == t224) = false := beq_eq_false_iff_ne.mpr c5
 have c5b1 : ((l0.length : Int) != t224) = true := bne_iff_ne.mpr c5
 simp only [Option.some.injEq, Prod.mk.injEq] at H
 obtain ⟨rfl, rfl⟩ := H
 go_enter Try.func65, Try.ntmps65
 go_wp2_with (first | ((with_reducible refine gate_callee (f := 91) rfl ?_); refine goesL_ (some 15) rfl rfl Try.func91 (by kernel_rfl) rfl #[.int .i64 (l1.length : Int)] rfl (by (try simp only [List.map_toArray, List.map_cons, List.map_nil]); first | done | rfl | (simp only [lD, lT]; rfl)) ?_; (with_reducible refine (probe_Size.calls k (l1.length : Int) t224 _ A4.out).mono ?_); rintro e w' ⟨rfl, ⟨nd, rfl⟩⟩; refine ⟨_, rfl, ?_⟩))
 go_ret2
 exact ⟨by first | rfl | (simp; done) | (simp [*]; done), by repeat (first | exact Drawn0.refl _ | apply Drawn0.step)⟩
end Go.Proofs.Ytoaacdjcjicemaa.PRevBack
