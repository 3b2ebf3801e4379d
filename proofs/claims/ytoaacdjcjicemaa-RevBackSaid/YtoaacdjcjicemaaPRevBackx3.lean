-- written by a program of this session (the print, turned)
import Derived.Test.YtoaacdjcjicemaaPRevBackx0
import Derived.Test.YtoaacdjcjicemaaPRevBackx2
import Derived.Test.YtoaacdjcjicemaaWAl
namespace Go.Proofs.Ytoaacdjcjicemaa.PRevBack
open Go.RowKit Go.Proofs.YtoaacdjcjicemaaW.PrintWords Go.Proofs.YtoaacdjcjicemaaW.PrintLast Go.Proofs.YtoaacdjcjicemaaW.PrintMore
attribute [local go_sem] cell_self cell_there leq_str geq_str gtr_str max2_str max2_int min2_int max_two min_two max_three min_three max_four min_four   -- for this text's walks alone
set_option linter.unusedVariables false
set_option linter.unusedSimpArgs false
abbrev q3_0 : Array Bool := #[false, false, false, false, false, false, false, false, false, false, false, false, false, false, false, false, false, false, false, false, false, false, false, false, false, false, false, false, false]
abbrev q3_1 : Array Bool := #[false, true, false, false, false, false, false, false, false, false, false, false, false, false, false, false, false, false, false, false, false, false, false, false, false, false, false, false, false]
abbrev q3_2 : Array Bool := #[true, true, false, false, false, false, false, false, false, false, false, false, false, false, false, false, false, false, false, false, false, false, false, false, false, false, false, false, false]
abbrev q3_3 : Array Bool := #[true, true, true, false, false, false, false, false, false, false, false, false, false, false, false, false, false, false, false, false, false, false, false, false, false, false, false, false, false]
abbrev q3_4 : Array Bool := #[true, true, true, true, false, false, false, false, false, false, false, false, false, false, false, false, false, false, false, false, false, false, false, false, false, false, false, false, false]
abbrev q3_5 : Array Bool := #[true, true, true, true, true, false, false, false, false, false, false, false, false, false, false, false, false, false, false, false, false, false, false, false, false, false, false, false, false]
abbrev q3_6 : Array Bool := #[true, true, true, true, true, true, false, false, false, false, false, false, false, false, false, false, false, false, false, false, false, false, false, false, false, false, false, false, false]
abbrev q3_7 : Array Bool := #[true, true, true, true, true, true, true, false, false, false, false, false, false, false, false, false, false, false, false, false, false, false, false, false, false, false, false, false, false]
abbrev q3_8 : Array Bool := #[true, true, true, true, true, true, true, true, false, false, false, false, false, false, false, false, false, false, false, false, false, false, false, false, false, false, false, false, false]
abbrev q3_9 : Array Bool := #[true, true, true, true, true, true, true, true, true, false, false, false, false, false, false, false, false, false, false, false, false, false, false, false, false, false, false, false, false]
abbrev q3_10 : Array Bool := #[true, true, true, true, true, true, true, true, true, true, false, false, false, false, false, false, false, false, false, false, false, false, false, false, false, false, false, false, false]
abbrev q3_11 : Array Bool := #[true, true, true, true, true, true, true, true, true, true, true, false, false, false, false, false, false, false, false, false, false, false, false, false, false, false, false, false, false]
abbrev q3_12 : Array Bool := #[true, true, true, true, true, true, true, true, true, true, true, true, false, false, false, false, false, false, false, false, false, false, false, false, false, false, false, false, false]
abbrev q3_13 : Array Bool := #[true, true, true, true, true, true, true, true, true, true, true, true, true, false, false, false, false, false, false, false, false, false, false, false, false, false, false, false, false]
abbrev q3_14 : Array Bool := #[true, true, true, true, true, true, true, true, true, true, true, true, true, true, false, false, false, false, false, false, false, false, false, false, false, false, false, false, false]
abbrev q3_15 : Array Bool := #[true, true, true, true, true, true, true, true, true, true, true, true, true, true, true, false, false, false, false, false, false, false, false, false, false, false, false, false, false]
abbrev q3_16 : Array Bool := #[true, true, true, true, true, true, true, true, true, true, true, true, true, true, true, true, false, false, false, false, false, false, false, false, false, false, false, false, false]
abbrev q3_17 : Array Bool := #[true, true, true, true, true, true, true, true, true, true, true, true, true, true, true, true, true, false, false, false, false, false, false, false, false, false, false, false, false]
abbrev q3_18 : Array Bool := #[true, true, true, true, true, true, true, true, true, true, true, true, true, true, true, true, true, true, false, false, false, false, false, false, false, false, false, false, false]
abbrev q3_19 : Array Bool := #[true, true, true, true, true, true, true, true, true, true, true, true, true, true, true, true, true, true, true, false, false, false, false, false, false, false, false, false, false]
abbrev q3_20 : Array Bool := #[true, true, true, true, true, true, true, true, true, true, true, true, true, true, true, true, true, true, true, true, false, false, false, false, false, false, false, false, false]
abbrev q3_21 : Array Bool := #[true, true, true, true, true, true, true, true, true, true, true, true, true, true, true, true, true, true, true, true, true, false, false, false, false, false, false, false, false]
abbrev q3_22 : Array Bool := #[true, true, true, true, true, true, true, true, true, true, true, true, true, true, true, true, true, true, true, true, true, true, false, false, false, false, false, false, false]
abbrev q3_23 : Array Bool := #[true, true, true, true, true, true, true, true, true, true, true, true, true, true, true, true, true, true, true, true, true, true, true, false, false, false, false, false, false]
abbrev q3_24 : Array Bool := #[true, true, true, true, true, true, true, true, true, true, true, true, true, true, true, true, true, true, true, true, true, true, true, false, true, false, false, false, false]
abbrev q3_25 : Array Bool := #[true, true, true, true, true, true, true, true, true, true, true, true, true, true, true, true, true, true, true, true, true, true, true, true, true, false, false, false, false]
abbrev q3_26 : Array Bool := #[true, true, true, true, true, true, true, true, true, true, true, true, true, true, true, true, true, true, true, true, true, true, true, true, true, true, false, false, false]
abbrev q3_27 : Array Bool := #[true, true, true, true, true, true, true, true, true, true, true, true, true, true, true, true, true, true, true, true, true, true, true, true, true, true, true, false, false]
abbrev q3_28 : Array Bool := #[true, true, true, true, true, true, true, true, true, true, true, true, true, true, true, true, true, true, true, true, true, true, true, true, true, true, true, true, false]
abbrev q3_29 : Array Bool := #[true, true, true, true, true, true, true, true, true, true, true, true, true, true, true, true, true, true, true, true, true, true, true, true, true, true, true, true, true]
abbrev q3_30 : Array Bool := #[true, true, true, true, true, true, true, true, true, true, true, true, true, true, true, true, true, true, true, true, true, true, true, true, false, false, false, false, false]
/-! ### rev_rises: function 54 -/
def rev_rises.l0 : Nat → List (S114) → List (S114) → Int → Int → ByteArray → ByteArray → Bool → Option (Bool)
 | 0, _, _, _, _, _, _, _ => none
 | k + 1, x1, x7, x8, x9, x103000, x103001, x103002 => if x9 < x8 then (if 0 ≤ x9 then (if x9 < (x7.length : Int) then ((key_Has.f x103000 x103001 x103002 ((rd_T114 x7 x9).f0)).bind fun t105 => (if t105 = true then (if (rd_T114 x7 x9).f2 = true then (if ((rd_T114 x7 x9).f1).toList = ([] : List UInt8) then (if x9 > 0 then (if 0 ≤ (wrap64 (x9 - 1)) then (if (wrap64 (x9 - 1)) < (x1.length : Int) then (if ((Op.bytesLess (((rd_T114 x1 (wrap64 (x9 - 1))).f0).toList) (((rd_T114 x7 x9).f0).toList)) = true) then (rev_rises.l0 k x1 x7 x8 (wrap64 (x9 + 1)) x103000 x103001 x103002) else (some false)) else (none)) else (none)) else (rev_rises.l0 k x1 x7 x8 (wrap64 (x9 + 1)) x103000 x103001 x103002)) else (some false)) else (if x9 > 0 then (if 0 ≤ (wrap64 (x9 - 1)) then (if (wrap64 (x9 - 1)) < (x1.length : Int) then (if ((Op.bytesLess (((rd_T114 x1 (wrap64 (x9 - 1))).f0).toList) (((rd_T114 x7 x9).f0).toList)) = true) then (rev_rises.l0 k x1 x7 x8 (wrap64 (x9 + 1)) x103000 x103001 x103002) else (some false)) else (none)) else (none)) else (rev_rises.l0 k x1 x7 x8 (wrap64 (x9 + 1)) x103000 x103001 x103002))) else (some false))) else (none)) else (none)) else (some true)
def rev_rises.f (k : Nat) (a0_0 : ByteArray) (a0_1 : ByteArray) (a0_2 : Bool) (l1 : List (S114)) : Option (Bool) := rev_rises.l0 k l1 l1 (l1.length : Int) 0 a0_0 a0_1 a0_2
def rev_rises.T4 : Bool × List (List Nat × List Nat) := (true, [([], []), ([], []), ([1], [1]), ([0, 2], [0, 2]), ([3], [3]), ([4, 3], [4]), ([5], [5]), ([6, 5], [5, 6]), ([7, 5, 5], [5, 7]), ([8], [8]), ([9, 8], [8, 9]), ([10, 8], [8, 10]), ([8, 11, 5], [5, 8, 11]), ([5, 12], [5, 12]), ([13, 8], [13]), ([14], [14]), ([15, 14], [14, 15]), ([16, 14, 14], [14, 16]), ([17], [17]), ([17], [17]), ([19, 17], [17, 19]), ([18, 20, 17], [17, 18, 20]), ([21, 17], [17, 21]), ([22, 17], [17, 22]), ([17], [17]), ([24, 17], [17, 24]), ([23, 25, 17], [17, 23, 25]), ([17, 26, 14], [14, 17, 26]), ([14, 27], [14, 27])])
def rev_rises.B4 : List Nat := [0, 0, 2, 7, 15, 31, 63, 127, 255, 511, 1023, 2047, 4095, 8191, 16383, 32767, 65535, 131071, 262143, 262143, 786431, 2097151, 4194303, 8388607, 262143, 17039359, 67108863, 134217727, 268435455]
theorem rev_rises.tab4 : rtab .any (opsOf Try.f54 4) = rev_rises.T4 := by kernel_rfl
theorem rev_rises.bits4 : waitsOk rev_rises.T4.2 rev_rises.B4 = true := by kernel_rfl
set_option maxHeartbeats 8000000 in
set_option maxRecDepth 100000 in
theorem rev_rises.calls (k : Nat) (a0_0 : ByteArray) (a0_1 : ByteArray) (a0_2 : Bool) (A1 : Option Addr) (c1 : Nat) (l1 : List (S114)) (r : Bool) (w : World) (hr1 : Kd.C k114 w A1 l1.length l1) (hc1 : l1.length ≤ c1) (h : rev_rises.f k a0_0 a0_1 a0_2 l1 = some r) :
  Calls Try.prog 54 #[.agg #[.string a0_0, .string a0_1, .bool a0_2], .slice A1 l1.length c1] w fun e w' => e = .returned (.bool r) ∧ Below w.heap.size w w' := by
 have hu32 := Try.underlying32
 have hu114 := Try.underlying114
 have HR1 := K0 hr1
 have HC1 := K0 hc1
 clear hr1 hc1
 have HB := K0 (Below.refl w.heap.size w)
 have H : (rev_rises.l0 k l1 l1 (l1.length : Int) 0 a0_0 a0_1 a0_2) = some r := h
 clear h
 have H' := K0 H
 clear H
 go_enter Try.func54, Try.ntmps54
 go_wp2_with (first | ((with_reducible refine gate_dst (N := 2) rfl ?_); refine box_event ?hg (N := 2) ?hd (cs := #[.string a0_0, .string a0_1, .bool a0_2]) (t := 32) ?hr ?_; (case hd => rfl); (case hg => rfl); (case hr => first | (go_simp; done) | (go_simp; rfl)); intro gb102 hg w3 hbox hb; have n0_ := K0 (below_step (by repeat (first | (with_reducible first | exact HB.out | apply wA | apply wN | apply wD) | exact HB.out)) hb); have n1_ := K0 (hbox); have n2_ := K0 ((by rw [hg]; exact (below_size (by repeat (first | (with_reducible first | exact HB.out | apply wA | apply wN | apply wD) | exact HB.out))) : w.heap.size ≤ gb102)); have n3_ := K0 ((by rw [hg]; exact (below_size (by repeat (first | (with_reducible first | exact HB.out | apply wA | apply wN | apply wD) | exact HB.out))) : w.heap.size ≤ gb102)); clear HB; have HB := n0_; have BK102 := n1_; have GW102 := n2_; have GE102 := n3_; clear n0_ n1_ n2_ n3_; clear hb hbox hg))
 go_loopg [9] k (fun kq v9 w' => ∃ (x9_1 : Int), v9 = .int .i64 x9_1 ∧ Aside0 (rev_rises.l0 kq l1 l1 (l1.length : Int) x9_1 a0_0 a0_1 a0_2 = some r) ∧ Aside0 (kq ≤ k) ∧ Aside0 (w'.heap[gb102]? = some (.cells #[.string a0_0, .string a0_1, .bool a0_2] 32 (0, 0))) ∧ Aside0 (Below w.heap.size w w'))
 case atStart => exact ⟨(0), (by first | rfl | (simp; done) | (simp [*]; done)), H', ⟨Nat.le_refl _⟩, ⟨by (with_reducible repeat (first | refine bN ?_ _ | refine bD ?_ | refine bA ?_ _)); exact BK102.out⟩, ⟨by repeat (first | (with_reducible first | exact HB.out | apply wA | apply wN | apply wD | refine wS ?_ GE102.out) | exact HB.out)⟩⟩
 case round =>
  clear H'
  try clear c1
  try clear p2
  obtain ⟨x9_1, rfl, HA, HK1, BK102, HB⟩ := hrel
  cases gk with
  | zero => exact absurd HA.out (by simp [rev_rises.l0])
  | succ k1 =>
   have H := HA.out; clear HA; simp only [rev_rises.l0] at H; by_cases c4 : x9_1 < (l1.length : Int)
   ·
    rw [if_pos c4] at H; have c4b0 : decide (x9_1 < (l1.length : Int)) = true := dT c4; clear c4; by_cases c5 : 0 ≤ x9_1
    ·
     rw [if_pos c5] at H; have c5b0 : decide (0 ≤ x9_1) = true := dT c5; clear c5; by_cases c6 : x9_1 < (l1.length : Int)
     ·
      rw [if_pos c6] at H; have c6b0 : decide (x9_1 < (l1.length : Int)) = true := dT c6; clear c6; replace H := Option.bind_eq_some_iff.mp H; obtain ⟨t105, A70, H⟩ := H; replace H : (if t105 = true then (if (rd_T114 l1 x9_1).f2 = true then (if ((rd_T114 l1 x9_1).f1).toList = ([] : List UInt8) then (if x9_1 > 0 then (if 0 ≤ (wrap64 (x9_1 - 1)) then (if (wrap64 (x9_1 - 1)) < (l1.length : Int) then (if ((Op.bytesLess (((rd_T114 l1 (wrap64 (x9_1 - 1))).f0).toList) (((rd_T114 l1 x9_1).f0).toList)) = true) then (rev_rises.l0 k1 l1 l1 (l1.length : Int) (wrap64 (x9_1 + 1)) a0_0 a0_1 a0_2) else (some false)) else (none)) else (none)) else (rev_rises.l0 k1 l1 l1 (l1.length : Int) (wrap64 (x9_1 + 1)) a0_0 a0_1 a0_2)) else (some false)) else (if x9_1 > 0 then (if 0 ≤ (wrap64 (x9_1 - 1)) then (if (wrap64 (x9_1 - 1)) < (l1.length : Int) then (if ((Op.bytesLess (((rd_T114 l1 (wrap64 (x9_1 - 1))).f0).toList) (((rd_T114 l1 x9_1).f0).toList)) = true) then (rev_rises.l0 k1 l1 l1 (l1.length : Int) (wrap64 (x9_1 + 1)) a0_0 a0_1 a0_2) else (some false)) else (none)) else (none)) else (rev_rises.l0 k1 l1 l1 (l1.length : Int) (wrap64 (x9_1 + 1)) a0_0 a0_1 a0_2))) else (some false)) = some r := H; have A7 := K0 A70; clear A70; by_cases c8 : t105 = true
      ·
       subst c8; have H1 : (if (rd_T114 l1 x9_1).f2 = true then (if ((rd_T114 l1 x9_1).f1).toList = ([] : List UInt8) then (if x9_1 > 0 then (if 0 ≤ (wrap64 (x9_1 - 1)) then (if (wrap64 (x9_1 - 1)) < (l1.length : Int) then (if ((Op.bytesLess (((rd_T114 l1 (wrap64 (x9_1 - 1))).f0).toList) (((rd_T114 l1 x9_1).f0).toList)) = true) then (rev_rises.l0 k1 l1 l1 (l1.length : Int) (wrap64 (x9_1 + 1)) a0_0 a0_1 a0_2) else (some false)) else (none)) else (none)) else (rev_rises.l0 k1 l1 l1 (l1.length : Int) (wrap64 (x9_1 + 1)) a0_0 a0_1 a0_2)) else (some false)) else (if x9_1 > 0 then (if 0 ≤ (wrap64 (x9_1 - 1)) then (if (wrap64 (x9_1 - 1)) < (l1.length : Int) then (if ((Op.bytesLess (((rd_T114 l1 (wrap64 (x9_1 - 1))).f0).toList) (((rd_T114 l1 x9_1).f0).toList)) = true) then (rev_rises.l0 k1 l1 l1 (l1.length : Int) (wrap64 (x9_1 + 1)) a0_0 a0_1 a0_2) else (some false)) else (none)) else (none)) else (rev_rises.l0 k1 l1 l1 (l1.length : Int) (wrap64 (x9_1 + 1)) a0_0 a0_1 a0_2))) = some r := by rw [if_pos rfl] at H; exact H
       clear H; have H := H1; clear H1; obtain ⟨bq9, hbq9⟩ : ∃ b_ : Bool, b_ = ((rd_T114 l1 x9_1).f2) := ⟨_, rfl⟩; replace H : (if bq9 = true then (if ((rd_T114 l1 x9_1).f1).toList = ([] : List UInt8) then (if x9_1 > 0 then (if 0 ≤ (wrap64 (x9_1 - 1)) then (if (wrap64 (x9_1 - 1)) < (l1.length : Int) then (if ((Op.bytesLess (((rd_T114 l1 (wrap64 (x9_1 - 1))).f0).toList) (((rd_T114 l1 x9_1).f0).toList)) = true) then (rev_rises.l0 k1 l1 l1 (l1.length : Int) (wrap64 (x9_1 + 1)) a0_0 a0_1 a0_2) else (some false)) else (none)) else (none)) else (rev_rises.l0 k1 l1 l1 (l1.length : Int) (wrap64 (x9_1 + 1)) a0_0 a0_1 a0_2)) else (some false)) else (if x9_1 > 0 then (if 0 ≤ (wrap64 (x9_1 - 1)) then (if (wrap64 (x9_1 - 1)) < (l1.length : Int) then (if ((Op.bytesLess (((rd_T114 l1 (wrap64 (x9_1 - 1))).f0).toList) (((rd_T114 l1 x9_1).f0).toList)) = true) then (rev_rises.l0 k1 l1 l1 (l1.length : Int) (wrap64 (x9_1 + 1)) a0_0 a0_1 a0_2) else (some false)) else (none)) else (none)) else (rev_rises.l0 k1 l1 l1 (l1.length : Int) (wrap64 (x9_1 + 1)) a0_0 a0_1 a0_2))) = some r := by rw [← hbq9] at H; exact H
       have Nbq9 := K0 hbq9; clear hbq9; by_cases c10 : bq9 = true
       ·
        subst c10; have H1 : (if ((rd_T114 l1 x9_1).f1).toList = ([] : List UInt8) then (if x9_1 > 0 then (if 0 ≤ (wrap64 (x9_1 - 1)) then (if (wrap64 (x9_1 - 1)) < (l1.length : Int) then (if ((Op.bytesLess (((rd_T114 l1 (wrap64 (x9_1 - 1))).f0).toList) (((rd_T114 l1 x9_1).f0).toList)) = true) then (rev_rises.l0 k1 l1 l1 (l1.length : Int) (wrap64 (x9_1 + 1)) a0_0 a0_1 a0_2) else (some false)) else (none)) else (none)) else (rev_rises.l0 k1 l1 l1 (l1.length : Int) (wrap64 (x9_1 + 1)) a0_0 a0_1 a0_2)) else (some false)) = some r := by rw [if_pos rfl] at H; exact H
        clear H; have H := H1; clear H1; by_cases c11 : ((rd_T114 l1 x9_1).f1).toList = ([] : List UInt8)
        ·
         rw [if_pos c11] at H; have c11b0 : (((rd_T114 l1 x9_1).f1).toList == ([] : List UInt8)) = true := beq_iff_eq.mpr c11; have c11b1 : (((rd_T114 l1 x9_1).f1).toList != ([] : List UInt8)) = false := bne_eq_false_iff_eq.mpr c11; clear c11; by_cases c12 : x9_1 > 0
         ·
          rw [if_pos c12] at H; have c12b0 : decide (0 < x9_1) = true := dT c12; clear c12; obtain ⟨ji13, hji13⟩ : ∃ j_ : Int, (wrap64 (x9_1 - 1)) = j_ := ⟨_, rfl⟩; replace H : (if 0 ≤ (ji13) then (if (ji13) < (l1.length : Int) then (if ((Op.bytesLess (((rd_T114 l1 (ji13)).f0).toList) (((rd_T114 l1 x9_1).f0).toList)) = true) then (rev_rises.l0 k1 l1 l1 (l1.length : Int) (wrap64 (x9_1 + 1)) a0_0 a0_1 a0_2) else (some false)) else (none)) else (none)) = some r := by first | (rw [hji13] at H; exact H) | (simp only [hji13] at H ⊢; exact H)
          (try rw [hji13] at A7)
          have hji13w : (IntKind.i64.wrap (x9_1 - 1)) = ji13 := (i64_w _).trans hji13; by_cases c14 : 0 ≤ (ji13)
          ·
           rw [if_pos c14] at H; have c14b0 : decide (0 ≤ (ji13)) = true := dT c14; clear c14; by_cases c15 : (ji13) < (l1.length : Int)
           ·
            rw [if_pos c15] at H; have c15b0 : decide ((ji13) < (l1.length : Int)) = true := dT c15; clear c15; by_cases c16 : ((Op.bytesLess (((rd_T114 l1 (ji13)).f0).toList) (((rd_T114 l1 x9_1).f0).toList)) = true)
            ·
             rw [if_pos c16] at H; have c16b0 : (Op.bytesLess (((rd_T114 l1 (ji13)).f0).toList) (((rd_T114 l1 x9_1).f0).toList)) = true := c16; clear c16; have H' := K0 H; clear H; have p103 : 0 ≤ (x9_1 : Int) := oT (by first | (with_reducible assumption) | assumption); have q103 : x9_1 < (l1.length : Int) := oT (by first | (with_reducible assumption) | assumption); obtain ⟨ad103, e103, hx103_0, hx103_1, hx103_2⟩ := at_T114b HR1.out HB.out x9_1 p103 q103; (try rw [← Nbq9.out] at hx103_2)
             cases e103; replace p103 := eq_true p103; replace q103 := eq_true q103; try go_wp2_with (first | ((with_reducible refine gate_dst (N := 6) rfl ?_); refine box_event ?hg (N := 6) ?hd (cs := #[.string (⟨#[]⟩ : ByteArray), .string (⟨#[]⟩ : ByteArray), .bool false]) (t := 114) ?hr ?_; (case hd => rfl); (case hg => rfl); (case hr => first | (go_simp; done) | (go_simp; rfl)); intro gb104 hg w17 hbox hb; have n0_ := K0 (bB (g := gb102) (o := .cells #[.string a0_0, .string a0_1, .bool a0_2] 32 (0, 0)) (by (with_reducible repeat (first | refine bN ?_ _ | refine bD ?_ | refine bA ?_ _)); exact BK102.out) hb); have n1_ := K0 (below_step (by repeat (first | (with_reducible first | exact HB.out | apply wA | apply wN | apply wD | refine wS ?_ GE102.out) | exact HB.out)) hb); have n2_ := K0 (hbox); have n3_ := K0 ((by rw [hg]; exact (below_size (by repeat (first | (with_reducible first | exact HB.out | apply wA | apply wN | apply wD | refine wS ?_ GE102.out) | exact HB.out))) : w.heap.size ≤ gb104)); have n4_ := K0 ((by rw [hg]; exact (below_size (by repeat (first | (with_reducible first | exact HB.out | apply wA | apply wN | apply wD | refine wS ?_ GE102.out) | exact HB.out))) : w.heap.size ≤ gb104)); have n5_ := K0 ((by rw [hg]; exact Nat.ne_of_lt (blk_lt (g := gb102) (o := .cells #[.string a0_0, .string a0_1, .bool a0_2] 32 (0, 0)) (by (with_reducible repeat (first | refine bN ?_ _ | refine bD ?_ | refine bA ?_ _)); exact BK102.out)) : gb102 ≠ gb104)); have n6_ := K0 ((by rw [hg]; exact Nat.ne_of_gt (blk_lt (g := gb102) (o := .cells #[.string a0_0, .string a0_1, .bool a0_2] 32 (0, 0)) (by (with_reducible repeat (first | refine bN ?_ _ | refine bD ?_ | refine bA ?_ _)); exact BK102.out)) : gb104 ≠ gb102)); clear BK102; clear HB; have BK102 := n0_; have HB := n1_; have BK104 := n2_; have GW104 := n3_; have GE104 := n4_; have NB102_104 := n5_; have NB104_102 := n6_; clear n0_ n1_ n2_ n3_ n4_ n5_ n6_; clear hb hbox hg; have hnb18 := NB104_102.out; have hnc18 := NB102_104.out; obtain ⟨hcz19_0, hcz19_1, hcz19_2⟩ := cellS3 BK104.out; obtain ⟨hfz19_0, hfz19_1, hfz19_2⟩ := frozS3 BK104.out))
             have n0_ : Aside0 ((((w17.setCell ⟨gb104, 0, none⟩ (.string ((rd_T114 l1 x9_1).f0))).setCell ⟨gb104, 1, none⟩ (.string ((rd_T114 l1 x9_1).f1))).setCell ⟨gb104, 2, none⟩ (.bool true)).heap[gb102]? = some (.cells #[.string a0_0, .string a0_1, .bool a0_2] 32 (0, 0))) := ⟨by (with_reducible repeat (first | refine bN ?_ _ | refine bD ?_ | refine bA ?_ _)); refine blk_far ?_ NB102_104.out _; (with_reducible repeat (first | refine bN ?_ _ | refine bD ?_ | refine bA ?_ _)); refine blk_far ?_ NB102_104.out _; (with_reducible repeat (first | refine bN ?_ _ | refine bD ?_ | refine bA ?_ _)); refine blk_far ?_ NB102_104.out _; (with_reducible repeat (first | refine bN ?_ _ | refine bD ?_ | refine bA ?_ _)); exact BK102.out⟩; have n1_ : Aside0 ((((w17.setCell ⟨gb104, 0, none⟩ (.string ((rd_T114 l1 x9_1).f0))).setCell ⟨gb104, 1, none⟩ (.string ((rd_T114 l1 x9_1).f1))).setCell ⟨gb104, 2, none⟩ (.bool true)).heap[gb104]? = some (.cells #[.string ((rd_T114 l1 x9_1).f0), .string ((rd_T114 l1 x9_1).f1), .bool true] 114 (0, 0))) := ⟨by (with_reducible repeat (first | refine bN ?_ _ | refine bD ?_ | refine bA ?_ _)); apply blkS3; (with_reducible repeat (first | refine bN ?_ _ | refine bD ?_ | refine bA ?_ _)); exact BK104.out⟩; have n2_ : Aside0 (Below w.heap.size w (((w17.setCell ⟨gb104, 0, none⟩ (.string ((rd_T114 l1 x9_1).f0))).setCell ⟨gb104, 1, none⟩ (.string ((rd_T114 l1 x9_1).f1))).setCell ⟨gb104, 2, none⟩ (.bool true))) := ⟨by repeat (first | (with_reducible first | exact HB.out | apply wA | apply wN | apply wD | refine wS ?_ GE102.out | refine wS ?_ GE104.out) | exact HB.out)⟩; (try clear BK102)
             (try clear BK104)
             (try clear HB)
             generalize (((w17.setCell ⟨gb104, 0, none⟩ (.string ((rd_T114 l1 x9_1).f0))).setCell ⟨gb104, 1, none⟩ (.string ((rd_T114 l1 x9_1).f1))).setCell ⟨gb104, 2, none⟩ (.bool true)) = w20 at n0_ n1_ n2_ ⊢; have BK102 := n0_; have BK104 := n1_; have HB := n2_; clear n0_ n1_ n2_; have n0_ := K0 (bD BK102.out); have n1_ := K0 (bD BK104.out); have n2_ := K0 (wD HB.out); clear BK102 BK104 HB; have BK102 := n0_; have BK104 := n1_; have HB := n2_; clear n0_ n1_ n2_; have p106 : 0 ≤ ((ji13) : Int) := oT (by first | (with_reducible assumption) | assumption); have q106 : (ji13) < (l1.length : Int) := oT (by first | (with_reducible assumption) | assumption); obtain ⟨ad106, e106, hx106_0, hx106_1, hx106_2⟩ := at_T114 HR1.out (ji13) p106 q106; have hw106_2 := hx106_2; have hw106_1 := hx106_1; have hw106_0 := hx106_0; (try rw [← Nbq9.out] at hx106_2)
             obtain rfl : ad103 = ad106 := (by injection e106); replace hx106_0 := (HB.out.cell (bL w _ hx106_0)).trans hx106_0; replace hx106_1 := (HB.out.cell (bL w _ hx106_1)).trans hx106_1; replace hx106_2 := (HB.out.cell (bL w _ hx106_2)).trans hx106_2; replace p106 := eq_true p106; replace q106 := eq_true q106; refine start_ (n := 29) (S := fun w' => w'.cell? ⟨gb102, 0, none⟩ = some (.string a0_0) ∧ w'.cell? ⟨gb102, 1, none⟩ = some (.string a0_1) ∧ w'.cell? ⟨gb102, 2, none⟩ = some (.bool a0_2) ∧ w'.cell? ⟨gb104, 0, none⟩ = some (.string ((rd_T114 l1 x9_1).f0)) ∧ w'.cell? ⟨gb104, 1, none⟩ = some (.string ((rd_T114 l1 x9_1).f1)) ∧ w'.cell? ⟨gb104, 2, none⟩ = some (.bool true) ∧ w'.cell? (ad103.add (((ji13)).toNat * 3)) = some (.string ((rd_T114 l1 (ji13)).f0)) ∧ w'.cell? ⟨(ad103.add (((ji13)).toNat * 3)).block, (ad103.add (((ji13)).toNat * 3)).off + 1, none⟩ = some (.string ((rd_T114 l1 (ji13)).f1)) ∧ w'.cell? ⟨(ad103.add (((ji13)).toNat * 3)).block, (ad103.add (((ji13)).toNat * 3)).off + 2, none⟩ = some (.bool ((rd_T114 l1 (ji13)).f2))) (ds := []) q3_0 (by kernel_rfl) rfl rfl ⟨(bC BK102.out 0).trans rfl, (bC BK102.out 1).trans rfl, (bC BK102.out 2).trans rfl, (bC BK104.out 0).trans rfl, (bC BK104.out 1).trans rfl, (bC BK104.out 2).trans rfl, ((HB.out.cell (bL w _ hw106_0)).trans hw106_0), ((HB.out.cell (bL w _ hw106_1)).trans hw106_1), ((HB.out.cell (bL w _ hw106_2)).trans hw106_2)⟩ (fun hHeld => ?_); refine with_tabW rev_rises.tab4 rev_rises.bits4 (fun HT_ HW_ => ?_)
             generalize w20.drew = w21 at BK102 BK104 HB hx106_0 hx106_1 hx106_2 hHeld ⊢; refine pure_ (i := 1) (N := some 15) (v := ?_) (a' := ?_) q3_1 rfl rfl (any_of HT_.out (by kernel_rfl)) (fun _ _ _ h => h) (Or.inl ⟨by rfl, ?_⟩) ?_ ?_; rotate_left
             · intro w'; go_simp; with_reducible rfl
             rotate_left
             · simp only [Act.put, s1, s2, s3, i64_w, i32_w]; rfl
             refine take_ (i := 0) (N := some 14) (v := ?_) (a' := ?_) q3_2 rfl rfl (take_ofW HT_.out HW_.out (by kernel_rfl)) (fun _ _ _ h => h) (Or.inl ⟨by rfl, ?_⟩) hHeld ?_ ?_; rotate_left
             · rintro w' ⟨s0, s1, s2, s3, s4, s5, s6, s7, s8⟩; go_simp; with_reducible rfl
             rotate_left
             · simp only [Act.put, s1, s2, s3, i64_w, i32_w]; rfl
             refine take_ (i := 2) (N := some 16) (v := ?_) (a' := ?_) q3_3 rfl rfl (take_ofW HT_.out HW_.out (by kernel_rfl)) (fun _ _ _ h => h) (Or.inl ⟨by rfl, ?_⟩) hHeld ?_ ?_; rotate_left
             · rintro w' ⟨s0, s1, s2, s3, s4, s5, s6, s7, s8⟩; go_simp; with_reducible rfl
             rotate_left
             · simp only [Act.put, s1, s2, s3, i64_w, i32_w]; rfl
             refine one_ (i := 3) (N := some 17) q3_4 rfl rfl (one_of HT_.out (by kernel_rfl)) (by decide) (fun K hK => ?_); refine goes_ Try.func67 (by kernel_rfl) rfl #[.agg #[.string a0_0, .string a0_1, .bool a0_2], .string ((rd_T114 l1 x9_1).f0)] (by rfl) rfl rfl (by (try simp only [List.map_toArray, List.map_cons, List.map_nil]); first | done | rfl | (simp only [lD, lT]; rfl)) ?_; with_reducible refine (key_Has.calls a0_0 a0_1 a0_2 ((rd_T114 l1 x9_1).f0) true _ A7.out).mono ?_
             rintro e w22 ⟨rfl, hb⟩; refine ⟨_, rfl, ?_⟩; have n0_ := K0 (bB (g := gb102) (o := .cells #[.string a0_0, .string a0_1, .bool a0_2] 32 (0, 0)) (by (with_reducible repeat (first | refine bN ?_ _ | refine bD ?_ | refine bA ?_ _)); exact BK102.out) hb); have n1_ := K0 (bB (g := gb104) (o := .cells #[.string ((rd_T114 l1 x9_1).f0), .string ((rd_T114 l1 x9_1).f1), .bool true] 114 (0, 0)) (by (with_reducible repeat (first | refine bN ?_ _ | refine bD ?_ | refine bA ?_ _)); exact BK104.out) hb); have n2_ := K0 (below_step (by repeat (first | (with_reducible first | exact HB.out | apply wA | apply wN | apply wD | refine wS ?_ GE102.out | refine wS ?_ GE104.out) | exact HB.out)) hb); clear BK102 BK104 HB; have BK102 := n0_; have BK104 := n1_; have HB := n2_; clear n0_ n1_ n2_; (try clear hb)
             (try clear hb2)
             (try clear hk)
             (try clear hi)
             refine hK.out _ _ ⟨(bC BK102.out 0).trans rfl, (bC BK102.out 1).trans rfl, (bC BK102.out 2).trans rfl, (bC BK104.out 0).trans rfl, (bC BK104.out 1).trans rfl, (bC BK104.out 2).trans rfl, ((HB.out.cell (bL w _ hw106_0)).trans hw106_0), ((HB.out.cell (bL w _ hw106_1)).trans hw106_1), ((HB.out.cell (bL w _ hw106_2)).trans hw106_2)⟩ (fun hHeld => ?_); clear hK K; refine norm_ (a' := ?_) ?_ ?_; rotate_left
             · show Act.put _ (some 17) _ = _; simp only [Act.put, s1, s2, s3, i64_w, i32_w]; rfl
             refine pure_ (i := 4) (N := some 18) (v := ?_) (a' := ?_) q3_5 rfl rfl (any_of HT_.out (by kernel_rfl)) (fun _ _ _ h => h) (Or.inl ⟨by rfl, ?_⟩) ?_ ?_; rotate_left
             · intro w'; go_simp; with_reducible rfl
             rotate_left
             · simp only [Act.put, s1, s2, s3, i64_w, i32_w]; rfl
             refine pure_ (i := 5) (N := some 19) (v := ?_) (a' := ?_) q3_6 rfl rfl (any_of HT_.out (by kernel_rfl)) (fun _ _ _ h => h) (Or.inl ⟨by rfl, ?_⟩) ?_ ?_; rotate_left
             · intro w'; go_simp; with_reducible rfl
             rotate_left
             · simp only [Act.put, s1, s2, s3, i64_w, i32_w]; rfl
             refine pure_ (i := 6) (N := some 20) (v := ?_) (a' := ?_) q3_7 rfl rfl (any_of HT_.out (by kernel_rfl)) (fun _ _ _ h => h) (Or.inl ⟨by rfl, ?_⟩) ?_ ?_; rotate_left
             · intro w'; go_simp; with_reducible rfl
             rotate_left
             · simp only [Act.put, s1, s2, s3, i64_w, i32_w]; rfl
             refine take_ (i := 7) (N := some 21) (v := ?_) (a' := ?_) q3_8 rfl rfl (take_ofW HT_.out HW_.out (by kernel_rfl)) (fun _ _ _ h => h) (Or.inl ⟨by rfl, ?_⟩) hHeld ?_ ?_; rotate_left
             · rintro w' ⟨s0, s1, s2, s3, s4, s5, s6, s7, s8⟩; go_simp; with_reducible rfl
             rotate_left
             · simp only [Act.put, s1, s2, s3, i64_w, i32_w]; rfl
             refine pure_ (i := 8) (N := some 22) (v := ?_) (a' := ?_) q3_9 rfl rfl (any_of HT_.out (by kernel_rfl)) (fun _ _ _ h => h) (Or.inl ⟨by rfl, ?_⟩) ?_ ?_; rotate_left
             · intro w'; go_simp; with_reducible rfl
             rotate_left
             · simp only [Act.put, s1, s2, s3, i64_w, i32_w]; rfl
             refine pure_ (i := 9) (N := some 23) (v := ?_) (a' := ?_) q3_10 rfl rfl (any_of HT_.out (by kernel_rfl)) (fun _ _ _ h => h) (Or.inl ⟨by rfl, ?_⟩) ?_ ?_; rotate_left
             · intro w'; go_simp; with_reducible rfl
             rotate_left
             · simp only [Act.put, s1, s2, s3, i64_w, i32_w]; rfl
             refine take_ (i := 10) (N := some 24) (v := ?_) (a' := ?_) q3_11 rfl rfl (take_ofW HT_.out HW_.out (by kernel_rfl)) (fun _ _ _ h => h) (Or.inl ⟨by rfl, ?_⟩) hHeld ?_ ?_; rotate_left
             · rintro w' ⟨s0, s1, s2, s3, s4, s5, s6, s7, s8⟩; go_simp; with_reducible rfl
             rotate_left
             · simp only [Act.put, s1, s2, s3, i64_w, i32_w]; rfl
             refine pure_ (i := 11) (N := some 25) (v := ?_) (a' := ?_) q3_12 rfl rfl (any_of HT_.out (by kernel_rfl)) (fun _ _ _ h => h) (Or.inl ⟨by rfl, ?_⟩) ?_ ?_; rotate_left
             · intro w'; go_simp; with_reducible rfl
             rotate_left
             · simp only [Act.put, s1, s2, s3, i64_w, i32_w]; rfl
             refine pure_ (i := 12) (N := some 26) (v := ?_) (a' := ?_) q3_13 rfl rfl (any_of HT_.out (by kernel_rfl)) (fun _ _ _ h => h) (Or.inl ⟨by rfl, ?_⟩) ?_ ?_; rotate_left
             · intro w'; go_simp; with_reducible rfl
             rotate_left
             · simp only [Act.put, s1, s2, s3, i64_w, i32_w]; rfl
             refine pure_ (i := 13) (N := some 27) (v := ?_) (a' := ?_) q3_14 rfl rfl (any_of HT_.out (by kernel_rfl)) (fun _ _ _ h => h) (Or.inl ⟨by rfl, ?_⟩) ?_ ?_; rotate_left
             · intro w'; go_simp; with_reducible rfl
             rotate_left
             · simp only [Act.put, s1, s2, s3, i64_w, i32_w]; rfl
             refine pure_ (i := 14) (N := some 28) (v := ?_) (a' := ?_) q3_15 rfl rfl (any_of HT_.out (by kernel_rfl)) (fun _ _ _ h => h) (Or.inl ⟨by rfl, ?_⟩) ?_ ?_; rotate_left
             · intro w'; go_simp; with_reducible rfl
             rotate_left
             · simp only [Act.put, s1, s2, s3, i64_w, i32_w]; rfl
             refine pure_ (i := 15) (N := some 29) (v := ?_) (a' := ?_) q3_16 rfl rfl (any_of HT_.out (by kernel_rfl)) (fun _ _ _ h => h) (Or.inl ⟨by rfl, ?_⟩) ?_ ?_; rotate_left
             · intro w'; go_simp; with_reducible rfl
             rotate_left
             · simp only [Act.put, s1, s2, s3, i64_w, i32_w]; rfl
             refine pure_ (i := 16) (N := some 30) (v := ?_) (a' := ?_) q3_17 rfl rfl (any_of HT_.out (by kernel_rfl)) (fun _ _ _ h => h) (Or.inl ⟨by rfl, ?_⟩) ?_ ?_; rotate_left
             · intro w'; go_simp; with_reducible rfl
             rotate_left
             · simp only [Act.put, s1, s2, s3, i64_w, i32_w]; rfl
             refine pure_ (i := 17) (N := some 31) (v := ?_) (a' := ?_) q3_18 rfl rfl (any_of HT_.out (by kernel_rfl)) (fun _ _ _ h => h) (Or.inl ⟨by rfl, ?_⟩) ?_ ?_; rotate_left
             · intro w'; go_simp; with_reducible rfl
             rotate_left
             · simp only [Act.put, s1, s2, s3, i64_w, i32_w]; rfl
             refine pure_ (i := 18) (N := some 32) (v := ?_) (a' := ?_) q3_19 rfl rfl (any_of HT_.out (by kernel_rfl)) (fun _ _ _ h => h) (Or.inl ⟨by rfl, ?_⟩) ?_ ?_; rotate_left
             · intro w'; go_simp; with_reducible rfl
             rotate_left
             · simp only [Act.put, s1, s2, s3, i64_w, i32_w]; rfl
             refine pure_ (i := 19) (N := some 33) (v := ?_) (a' := ?_) q3_20 rfl rfl (any_of HT_.out (by kernel_rfl)) (fun _ _ _ h => h) (Or.inl ⟨by rfl, ?_⟩) ?_ ?_; rotate_left
             · intro w'; go_simp; with_reducible rfl
             rotate_left
             · simp only [Act.put, s1, s2, s3, i64_w, i32_w]; rfl
             refine pure_ (i := 20) (N := some 34) (v := ?_) (a' := ?_) q3_21 rfl rfl (any_of HT_.out (by kernel_rfl)) (fun _ _ _ h => h) (Or.inl ⟨by rfl, ?_⟩) ?_ ?_; rotate_left
             · intro w'; go_simp; with_reducible rfl
             rotate_left
             · simp only [Act.put, s1, s2, s3, i64_w, i32_w]; rfl
             refine pure_ (i := 21) (N := some 35) (v := ?_) (a' := ?_) q3_22 rfl rfl (any_of HT_.out (by kernel_rfl)) (fun _ _ _ h => h) (Or.inl ⟨by rfl, ?_⟩) ?_ ?_; rotate_left
             · intro w'; go_simp; with_reducible rfl
             rotate_left
             · simp only [Act.put, s1, s2, s3, i64_w, i32_w]; rfl
             refine pure_ (i := 22) (N := some 36) (v := ?_) (a' := ?_) q3_23 rfl rfl (any_of HT_.out (by kernel_rfl)) (fun _ _ _ h => h) (Or.inl ⟨by rfl, ?_⟩) ?_ ?_; rotate_left
             · intro w'; go_simp; with_reducible rfl
             rotate_left
             · simp only [Act.put, s1, s2, s3, i64_w, i32_w]; rfl
             refine pure_ (i := 24) (N := some 38) (v := ?_) (a' := ?_) q3_24 rfl rfl (any_of HT_.out (by kernel_rfl)) (fun _ _ _ h => h) (Or.inl ⟨by rfl, ?_⟩) ?_ ?_; rotate_left
             · intro w'; go_simp; with_reducible rfl
             rotate_left
             · simp only [Act.put, s1, s2, s3, i64_w, i32_w]; rfl
             refine take_ (i := 23) (N := some 37) (v := ?_) (a' := ?_) q3_25 rfl rfl (take_ofW HT_.out HW_.out (by kernel_rfl)) (fun _ _ _ h => h) (Or.inl ⟨by rfl, ?_⟩) hHeld ?_ ?_; rotate_left
             · rintro w' ⟨s0, s1, s2, s3, s4, s5, s6, s7, s8⟩; go_simp; with_reducible rfl
             rotate_left
             · simp only [Act.put, s1, s2, s3, i64_w, i32_w]; rfl
             refine take_ (i := 25) (N := some 39) (v := ?_) (a' := ?_) q3_26 rfl rfl (take_ofW HT_.out HW_.out (by kernel_rfl)) (fun _ _ _ h => h) (Or.inl ⟨by rfl, ?_⟩) hHeld ?_ ?_; rotate_left
             · rintro w' ⟨s0, s1, s2, s3, s4, s5, s6, s7, s8⟩; go_simp; with_reducible rfl
             rotate_left
             · simp only [Act.put, s1, s2, s3, i64_w, i32_w]; rfl
             refine pure_ (i := 26) (N := some 40) (v := ?_) (a' := ?_) q3_27 rfl rfl (any_of HT_.out (by kernel_rfl)) (fun _ _ _ h => h) (Or.inl ⟨by rfl, ?_⟩) ?_ ?_; rotate_left
             · intro w'; go_simp; with_reducible rfl
             rotate_left
             · simp only [Act.put, s1, s2, s3, i64_w, i32_w]; rfl
             refine pure_ (i := 27) (N := some 41) (v := ?_) (a' := ?_) q3_28 rfl rfl (any_of HT_.out (by kernel_rfl)) (fun _ _ _ h => h) (Or.inl ⟨by rfl, ?_⟩) ?_ ?_; rotate_left
             · intro w'; go_simp; with_reducible rfl
             rotate_left
             · simp only [Act.put, s1, s2, s3, i64_w, i32_w]; rfl
             refine pure_ (i := 28) (N := some 42) (v := ?_) (a' := ?_) q3_29 rfl rfl (any_of HT_.out (by kernel_rfl)) (fun _ _ _ h => h) (Or.inl ⟨by rfl, ?_⟩) ?_ ?_; rotate_left
             · intro w'; go_simp; with_reducible rfl
             rotate_left
             · simp only [Act.put, s1, s2, s3, i64_w, i32_w]; rfl
             refine done_ (done_of HT_.out (by kernel_rfl)) ?_; try go_wp2
             go_roundg k1
             case measure => have := HK1.out; omega
             case rel => exact ⟨(wrap64 (x9_1 + 1)), (by first | rfl | (simp; done) | (simp [*]; done)), H', ⟨by have := HK1.out; omega⟩, ⟨by (with_reducible repeat (first | refine bN ?_ _ | refine bD ?_ | refine bA ?_ _)); exact BK102.out⟩, ⟨by repeat (first | (with_reducible first | exact HB.out | apply wA | apply wN | apply wD | refine wS ?_ GE102.out | refine wS ?_ GE104.out) | exact HB.out)⟩⟩
            rw [if_neg c16] at H; have c16b0 : (Op.bytesLess (((rd_T114 l1 (ji13)).f0).toList) (((rd_T114 l1 x9_1).f0).toList)) = false := by simpa using c16
            clear c16; obtain rfl := Option.some.inj H; have p103 : 0 ≤ (x9_1 : Int) := oT (by first | (with_reducible assumption) | assumption); have q103 : x9_1 < (l1.length : Int) := oT (by first | (with_reducible assumption) | assumption); obtain ⟨ad103, e103, hx103_0, hx103_1, hx103_2⟩ := at_T114b HR1.out HB.out x9_1 p103 q103; (try rw [← Nbq9.out] at hx103_2)
            cases e103; replace p103 := eq_true p103; replace q103 := eq_true q103; try go_wp2_with (first | ((with_reducible refine gate_dst (N := 6) rfl ?_); refine box_event ?hg (N := 6) ?hd (cs := #[.string (⟨#[]⟩ : ByteArray), .string (⟨#[]⟩ : ByteArray), .bool false]) (t := 114) ?hr ?_; (case hd => rfl); (case hg => rfl); (case hr => first | (go_simp; done) | (go_simp; rfl)); intro gb104 hg w23 hbox hb; have n0_ := K0 (bB (g := gb102) (o := .cells #[.string a0_0, .string a0_1, .bool a0_2] 32 (0, 0)) (by (with_reducible repeat (first | refine bN ?_ _ | refine bD ?_ | refine bA ?_ _)); exact BK102.out) hb); have n1_ := K0 (below_step (by repeat (first | (with_reducible first | exact HB.out | apply wA | apply wN | apply wD | refine wS ?_ GE102.out) | exact HB.out)) hb); have n2_ := K0 (hbox); have n3_ := K0 ((by rw [hg]; exact (below_size (by repeat (first | (with_reducible first | exact HB.out | apply wA | apply wN | apply wD | refine wS ?_ GE102.out) | exact HB.out))) : w.heap.size ≤ gb104)); have n4_ := K0 ((by rw [hg]; exact (below_size (by repeat (first | (with_reducible first | exact HB.out | apply wA | apply wN | apply wD | refine wS ?_ GE102.out) | exact HB.out))) : w.heap.size ≤ gb104)); have n5_ := K0 ((by rw [hg]; exact Nat.ne_of_lt (blk_lt (g := gb102) (o := .cells #[.string a0_0, .string a0_1, .bool a0_2] 32 (0, 0)) (by (with_reducible repeat (first | refine bN ?_ _ | refine bD ?_ | refine bA ?_ _)); exact BK102.out)) : gb102 ≠ gb104)); have n6_ := K0 ((by rw [hg]; exact Nat.ne_of_gt (blk_lt (g := gb102) (o := .cells #[.string a0_0, .string a0_1, .bool a0_2] 32 (0, 0)) (by (with_reducible repeat (first | refine bN ?_ _ | refine bD ?_ | refine bA ?_ _)); exact BK102.out)) : gb104 ≠ gb102)); clear BK102; clear HB; have BK102 := n0_; have HB := n1_; have BK104 := n2_; have GW104 := n3_; have GE104 := n4_; have NB102_104 := n5_; have NB104_102 := n6_; clear n0_ n1_ n2_ n3_ n4_ n5_ n6_; clear hb hbox hg; have hnb24 := NB104_102.out; have hnc24 := NB102_104.out; obtain ⟨hcz25_0, hcz25_1, hcz25_2⟩ := cellS3 BK104.out; obtain ⟨hfz25_0, hfz25_1, hfz25_2⟩ := frozS3 BK104.out))
            have n0_ : Aside0 ((((w23.setCell ⟨gb104, 0, none⟩ (.string ((rd_T114 l1 x9_1).f0))).setCell ⟨gb104, 1, none⟩ (.string ((rd_T114 l1 x9_1).f1))).setCell ⟨gb104, 2, none⟩ (.bool true)).heap[gb102]? = some (.cells #[.string a0_0, .string a0_1, .bool a0_2] 32 (0, 0))) := ⟨by (with_reducible repeat (first | refine bN ?_ _ | refine bD ?_ | refine bA ?_ _)); refine blk_far ?_ NB102_104.out _; (with_reducible repeat (first | refine bN ?_ _ | refine bD ?_ | refine bA ?_ _)); refine blk_far ?_ NB102_104.out _; (with_reducible repeat (first | refine bN ?_ _ | refine bD ?_ | refine bA ?_ _)); refine blk_far ?_ NB102_104.out _; (with_reducible repeat (first | refine bN ?_ _ | refine bD ?_ | refine bA ?_ _)); exact BK102.out⟩; have n1_ : Aside0 ((((w23.setCell ⟨gb104, 0, none⟩ (.string ((rd_T114 l1 x9_1).f0))).setCell ⟨gb104, 1, none⟩ (.string ((rd_T114 l1 x9_1).f1))).setCell ⟨gb104, 2, none⟩ (.bool true)).heap[gb104]? = some (.cells #[.string ((rd_T114 l1 x9_1).f0), .string ((rd_T114 l1 x9_1).f1), .bool true] 114 (0, 0))) := ⟨by (with_reducible repeat (first | refine bN ?_ _ | refine bD ?_ | refine bA ?_ _)); apply blkS3; (with_reducible repeat (first | refine bN ?_ _ | refine bD ?_ | refine bA ?_ _)); exact BK104.out⟩; have n2_ : Aside0 (Below w.heap.size w (((w23.setCell ⟨gb104, 0, none⟩ (.string ((rd_T114 l1 x9_1).f0))).setCell ⟨gb104, 1, none⟩ (.string ((rd_T114 l1 x9_1).f1))).setCell ⟨gb104, 2, none⟩ (.bool true))) := ⟨by repeat (first | (with_reducible first | exact HB.out | apply wA | apply wN | apply wD | refine wS ?_ GE102.out | refine wS ?_ GE104.out) | exact HB.out)⟩; (try clear BK102)
            (try clear BK104)
            (try clear HB)
            generalize (((w23.setCell ⟨gb104, 0, none⟩ (.string ((rd_T114 l1 x9_1).f0))).setCell ⟨gb104, 1, none⟩ (.string ((rd_T114 l1 x9_1).f1))).setCell ⟨gb104, 2, none⟩ (.bool true)) = w26 at n0_ n1_ n2_ ⊢; have BK102 := n0_; have BK104 := n1_; have HB := n2_; clear n0_ n1_ n2_; have n0_ := K0 (bD BK102.out); have n1_ := K0 (bD BK104.out); have n2_ := K0 (wD HB.out); clear BK102 BK104 HB; have BK102 := n0_; have BK104 := n1_; have HB := n2_; clear n0_ n1_ n2_; have p106 : 0 ≤ ((ji13) : Int) := oT (by first | (with_reducible assumption) | assumption); have q106 : (ji13) < (l1.length : Int) := oT (by first | (with_reducible assumption) | assumption); obtain ⟨ad106, e106, hx106_0, hx106_1, hx106_2⟩ := at_T114 HR1.out (ji13) p106 q106; have hw106_2 := hx106_2; have hw106_1 := hx106_1; have hw106_0 := hx106_0; (try rw [← Nbq9.out] at hx106_2)
            obtain rfl : ad103 = ad106 := (by injection e106); replace hx106_0 := (HB.out.cell (bL w _ hx106_0)).trans hx106_0; replace hx106_1 := (HB.out.cell (bL w _ hx106_1)).trans hx106_1; replace hx106_2 := (HB.out.cell (bL w _ hx106_2)).trans hx106_2; replace p106 := eq_true p106; replace q106 := eq_true q106; refine start_ (n := 29) (S := fun w' => w'.cell? ⟨gb102, 0, none⟩ = some (.string a0_0) ∧ w'.cell? ⟨gb102, 1, none⟩ = some (.string a0_1) ∧ w'.cell? ⟨gb102, 2, none⟩ = some (.bool a0_2) ∧ w'.cell? ⟨gb104, 0, none⟩ = some (.string ((rd_T114 l1 x9_1).f0)) ∧ w'.cell? ⟨gb104, 1, none⟩ = some (.string ((rd_T114 l1 x9_1).f1)) ∧ w'.cell? ⟨gb104, 2, none⟩ = some (.bool true) ∧ w'.cell? (ad103.add (((ji13)).toNat * 3)) = some (.string ((rd_T114 l1 (ji13)).f0)) ∧ w'.cell? ⟨(ad103.add (((ji13)).toNat * 3)).block, (ad103.add (((ji13)).toNat * 3)).off + 1, none⟩ = some (.string ((rd_T114 l1 (ji13)).f1)) ∧ w'.cell? ⟨(ad103.add (((ji13)).toNat * 3)).block, (ad103.add (((ji13)).toNat * 3)).off + 2, none⟩ = some (.bool ((rd_T114 l1 (ji13)).f2))) (ds := []) q3_0 (by kernel_rfl) rfl rfl ⟨(bC BK102.out 0).trans rfl, (bC BK102.out 1).trans rfl, (bC BK102.out 2).trans rfl, (bC BK104.out 0).trans rfl, (bC BK104.out 1).trans rfl, (bC BK104.out 2).trans rfl, ((HB.out.cell (bL w _ hw106_0)).trans hw106_0), ((HB.out.cell (bL w _ hw106_1)).trans hw106_1), ((HB.out.cell (bL w _ hw106_2)).trans hw106_2)⟩ (fun hHeld => ?_); refine with_tabW rev_rises.tab4 rev_rises.bits4 (fun HT_ HW_ => ?_)
            generalize w26.drew = w27 at BK102 BK104 HB hx106_0 hx106_1 hx106_2 hHeld ⊢; refine pure_ (i := 1) (N := some 15) (v := ?_) (a' := ?_) q3_1 rfl rfl (any_of HT_.out (by kernel_rfl)) (fun _ _ _ h => h) (Or.inl ⟨by rfl, ?_⟩) ?_ ?_; rotate_left
            · intro w'; go_simp; with_reducible rfl
            rotate_left
            · simp only [Act.put, s1, s2, s3, i64_w, i32_w]; rfl
            refine take_ (i := 0) (N := some 14) (v := ?_) (a' := ?_) q3_2 rfl rfl (take_ofW HT_.out HW_.out (by kernel_rfl)) (fun _ _ _ h => h) (Or.inl ⟨by rfl, ?_⟩) hHeld ?_ ?_; rotate_left
            · rintro w' ⟨s0, s1, s2, s3, s4, s5, s6, s7, s8⟩; go_simp; with_reducible rfl
            rotate_left
            · simp only [Act.put, s1, s2, s3, i64_w, i32_w]; rfl
            refine take_ (i := 2) (N := some 16) (v := ?_) (a' := ?_) q3_3 rfl rfl (take_ofW HT_.out HW_.out (by kernel_rfl)) (fun _ _ _ h => h) (Or.inl ⟨by rfl, ?_⟩) hHeld ?_ ?_; rotate_left
            · rintro w' ⟨s0, s1, s2, s3, s4, s5, s6, s7, s8⟩; go_simp; with_reducible rfl
            rotate_left
            · simp only [Act.put, s1, s2, s3, i64_w, i32_w]; rfl
            refine one_ (i := 3) (N := some 17) q3_4 rfl rfl (one_of HT_.out (by kernel_rfl)) (by decide) (fun K hK => ?_); refine goes_ Try.func67 (by kernel_rfl) rfl #[.agg #[.string a0_0, .string a0_1, .bool a0_2], .string ((rd_T114 l1 x9_1).f0)] (by rfl) rfl rfl (by (try simp only [List.map_toArray, List.map_cons, List.map_nil]); first | done | rfl | (simp only [lD, lT]; rfl)) ?_; with_reducible refine (key_Has.calls a0_0 a0_1 a0_2 ((rd_T114 l1 x9_1).f0) true _ A7.out).mono ?_
            rintro e w28 ⟨rfl, hb⟩; refine ⟨_, rfl, ?_⟩; have n0_ := K0 (bB (g := gb102) (o := .cells #[.string a0_0, .string a0_1, .bool a0_2] 32 (0, 0)) (by (with_reducible repeat (first | refine bN ?_ _ | refine bD ?_ | refine bA ?_ _)); exact BK102.out) hb); have n1_ := K0 (bB (g := gb104) (o := .cells #[.string ((rd_T114 l1 x9_1).f0), .string ((rd_T114 l1 x9_1).f1), .bool true] 114 (0, 0)) (by (with_reducible repeat (first | refine bN ?_ _ | refine bD ?_ | refine bA ?_ _)); exact BK104.out) hb); have n2_ := K0 (below_step (by repeat (first | (with_reducible first | exact HB.out | apply wA | apply wN | apply wD | refine wS ?_ GE102.out | refine wS ?_ GE104.out) | exact HB.out)) hb); clear BK102 BK104 HB; have BK102 := n0_; have BK104 := n1_; have HB := n2_; clear n0_ n1_ n2_; (try clear hb)
            (try clear hb2)
            (try clear hk)
            (try clear hi)
            refine hK.out _ _ ⟨(bC BK102.out 0).trans rfl, (bC BK102.out 1).trans rfl, (bC BK102.out 2).trans rfl, (bC BK104.out 0).trans rfl, (bC BK104.out 1).trans rfl, (bC BK104.out 2).trans rfl, ((HB.out.cell (bL w _ hw106_0)).trans hw106_0), ((HB.out.cell (bL w _ hw106_1)).trans hw106_1), ((HB.out.cell (bL w _ hw106_2)).trans hw106_2)⟩ (fun hHeld => ?_); clear hK K; refine norm_ (a' := ?_) ?_ ?_; rotate_left
            · show Act.put _ (some 17) _ = _; simp only [Act.put, s1, s2, s3, i64_w, i32_w]; rfl
            refine pure_ (i := 4) (N := some 18) (v := ?_) (a' := ?_) q3_5 rfl rfl (any_of HT_.out (by kernel_rfl)) (fun _ _ _ h => h) (Or.inl ⟨by rfl, ?_⟩) ?_ ?_; rotate_left
            · intro w'; go_simp; with_reducible rfl
            rotate_left
            · simp only [Act.put, s1, s2, s3, i64_w, i32_w]; rfl
            refine pure_ (i := 5) (N := some 19) (v := ?_) (a' := ?_) q3_6 rfl rfl (any_of HT_.out (by kernel_rfl)) (fun _ _ _ h => h) (Or.inl ⟨by rfl, ?_⟩) ?_ ?_; rotate_left
            · intro w'; go_simp; with_reducible rfl
            rotate_left
            · simp only [Act.put, s1, s2, s3, i64_w, i32_w]; rfl
            refine pure_ (i := 6) (N := some 20) (v := ?_) (a' := ?_) q3_7 rfl rfl (any_of HT_.out (by kernel_rfl)) (fun _ _ _ h => h) (Or.inl ⟨by rfl, ?_⟩) ?_ ?_; rotate_left
            · intro w'; go_simp; with_reducible rfl
            rotate_left
            · simp only [Act.put, s1, s2, s3, i64_w, i32_w]; rfl
            refine take_ (i := 7) (N := some 21) (v := ?_) (a' := ?_) q3_8 rfl rfl (take_ofW HT_.out HW_.out (by kernel_rfl)) (fun _ _ _ h => h) (Or.inl ⟨by rfl, ?_⟩) hHeld ?_ ?_; rotate_left
            · rintro w' ⟨s0, s1, s2, s3, s4, s5, s6, s7, s8⟩; go_simp; with_reducible rfl
            rotate_left
            · simp only [Act.put, s1, s2, s3, i64_w, i32_w]; rfl
            refine pure_ (i := 8) (N := some 22) (v := ?_) (a' := ?_) q3_9 rfl rfl (any_of HT_.out (by kernel_rfl)) (fun _ _ _ h => h) (Or.inl ⟨by rfl, ?_⟩) ?_ ?_; rotate_left
            · intro w'; go_simp; with_reducible rfl
            rotate_left
            · simp only [Act.put, s1, s2, s3, i64_w, i32_w]; rfl
            refine pure_ (i := 9) (N := some 23) (v := ?_) (a' := ?_) q3_10 rfl rfl (any_of HT_.out (by kernel_rfl)) (fun _ _ _ h => h) (Or.inl ⟨by rfl, ?_⟩) ?_ ?_; rotate_left
            · intro w'; go_simp; with_reducible rfl
            rotate_left
            · simp only [Act.put, s1, s2, s3, i64_w, i32_w]; rfl
            refine take_ (i := 10) (N := some 24) (v := ?_) (a' := ?_) q3_11 rfl rfl (take_ofW HT_.out HW_.out (by kernel_rfl)) (fun _ _ _ h => h) (Or.inl ⟨by rfl, ?_⟩) hHeld ?_ ?_; rotate_left
            · rintro w' ⟨s0, s1, s2, s3, s4, s5, s6, s7, s8⟩; go_simp; with_reducible rfl
            rotate_left
            · simp only [Act.put, s1, s2, s3, i64_w, i32_w]; rfl
            refine pure_ (i := 11) (N := some 25) (v := ?_) (a' := ?_) q3_12 rfl rfl (any_of HT_.out (by kernel_rfl)) (fun _ _ _ h => h) (Or.inl ⟨by rfl, ?_⟩) ?_ ?_; rotate_left
            · intro w'; go_simp; with_reducible rfl
            rotate_left
            · simp only [Act.put, s1, s2, s3, i64_w, i32_w]; rfl
            refine pure_ (i := 12) (N := some 26) (v := ?_) (a' := ?_) q3_13 rfl rfl (any_of HT_.out (by kernel_rfl)) (fun _ _ _ h => h) (Or.inl ⟨by rfl, ?_⟩) ?_ ?_; rotate_left
            · intro w'; go_simp; with_reducible rfl
            rotate_left
            · simp only [Act.put, s1, s2, s3, i64_w, i32_w]; rfl
            refine pure_ (i := 13) (N := some 27) (v := ?_) (a' := ?_) q3_14 rfl rfl (any_of HT_.out (by kernel_rfl)) (fun _ _ _ h => h) (Or.inl ⟨by rfl, ?_⟩) ?_ ?_; rotate_left
            · intro w'; go_simp; with_reducible rfl
            rotate_left
            · simp only [Act.put, s1, s2, s3, i64_w, i32_w]; rfl
            refine pure_ (i := 14) (N := some 28) (v := ?_) (a' := ?_) q3_15 rfl rfl (any_of HT_.out (by kernel_rfl)) (fun _ _ _ h => h) (Or.inl ⟨by rfl, ?_⟩) ?_ ?_; rotate_left
            · intro w'; go_simp; with_reducible rfl
            rotate_left
            · simp only [Act.put, s1, s2, s3, i64_w, i32_w]; rfl
            refine pure_ (i := 15) (N := some 29) (v := ?_) (a' := ?_) q3_16 rfl rfl (any_of HT_.out (by kernel_rfl)) (fun _ _ _ h => h) (Or.inl ⟨by rfl, ?_⟩) ?_ ?_; rotate_left
            · intro w'; go_simp; with_reducible rfl
            rotate_left
            · simp only [Act.put, s1, s2, s3, i64_w, i32_w]; rfl
            refine pure_ (i := 16) (N := some 30) (v := ?_) (a' := ?_) q3_17 rfl rfl (any_of HT_.out (by kernel_rfl)) (fun _ _ _ h => h) (Or.inl ⟨by rfl, ?_⟩) ?_ ?_; rotate_left
            · intro w'; go_simp; with_reducible rfl
            rotate_left
            · simp only [Act.put, s1, s2, s3, i64_w, i32_w]; rfl
            refine pure_ (i := 17) (N := some 31) (v := ?_) (a' := ?_) q3_18 rfl rfl (any_of HT_.out (by kernel_rfl)) (fun _ _ _ h => h) (Or.inl ⟨by rfl, ?_⟩) ?_ ?_; rotate_left
            · intro w'; go_simp; with_reducible rfl
            rotate_left
            · simp only [Act.put, s1, s2, s3, i64_w, i32_w]; rfl
            refine pure_ (i := 18) (N := some 32) (v := ?_) (a' := ?_) q3_19 rfl rfl (any_of HT_.out (by kernel_rfl)) (fun _ _ _ h => h) (Or.inl ⟨by rfl, ?_⟩) ?_ ?_; rotate_left
            · intro w'; go_simp; with_reducible rfl
            rotate_left
            · simp only [Act.put, s1, s2, s3, i64_w, i32_w]; rfl
            refine pure_ (i := 19) (N := some 33) (v := ?_) (a' := ?_) q3_20 rfl rfl (any_of HT_.out (by kernel_rfl)) (fun _ _ _ h => h) (Or.inl ⟨by rfl, ?_⟩) ?_ ?_; rotate_left
            · intro w'; go_simp; with_reducible rfl
            rotate_left
            · simp only [Act.put, s1, s2, s3, i64_w, i32_w]; rfl
            refine pure_ (i := 20) (N := some 34) (v := ?_) (a' := ?_) q3_21 rfl rfl (any_of HT_.out (by kernel_rfl)) (fun _ _ _ h => h) (Or.inl ⟨by rfl, ?_⟩) ?_ ?_; rotate_left
            · intro w'; go_simp; with_reducible rfl
            rotate_left
            · simp only [Act.put, s1, s2, s3, i64_w, i32_w]; rfl
            refine pure_ (i := 21) (N := some 35) (v := ?_) (a' := ?_) q3_22 rfl rfl (any_of HT_.out (by kernel_rfl)) (fun _ _ _ h => h) (Or.inl ⟨by rfl, ?_⟩) ?_ ?_; rotate_left
            · intro w'; go_simp; with_reducible rfl
            rotate_left
            · simp only [Act.put, s1, s2, s3, i64_w, i32_w]; rfl
            refine pure_ (i := 22) (N := some 36) (v := ?_) (a' := ?_) q3_23 rfl rfl (any_of HT_.out (by kernel_rfl)) (fun _ _ _ h => h) (Or.inl ⟨by rfl, ?_⟩) ?_ ?_; rotate_left
            · intro w'; go_simp; with_reducible rfl
            rotate_left
            · simp only [Act.put, s1, s2, s3, i64_w, i32_w]; rfl
            refine pure_ (i := 24) (N := some 38) (v := ?_) (a' := ?_) q3_24 rfl rfl (any_of HT_.out (by kernel_rfl)) (fun _ _ _ h => h) (Or.inl ⟨by rfl, ?_⟩) ?_ ?_; rotate_left
            · intro w'; go_simp; with_reducible rfl
            rotate_left
            · simp only [Act.put, s1, s2, s3, i64_w, i32_w]; rfl
            refine take_ (i := 23) (N := some 37) (v := ?_) (a' := ?_) q3_25 rfl rfl (take_ofW HT_.out HW_.out (by kernel_rfl)) (fun _ _ _ h => h) (Or.inl ⟨by rfl, ?_⟩) hHeld ?_ ?_; rotate_left
            · rintro w' ⟨s0, s1, s2, s3, s4, s5, s6, s7, s8⟩; go_simp; with_reducible rfl
            rotate_left
            · simp only [Act.put, s1, s2, s3, i64_w, i32_w]; rfl
            refine take_ (i := 25) (N := some 39) (v := ?_) (a' := ?_) q3_26 rfl rfl (take_ofW HT_.out HW_.out (by kernel_rfl)) (fun _ _ _ h => h) (Or.inl ⟨by rfl, ?_⟩) hHeld ?_ ?_; rotate_left
            · rintro w' ⟨s0, s1, s2, s3, s4, s5, s6, s7, s8⟩; go_simp; with_reducible rfl
            rotate_left
            · simp only [Act.put, s1, s2, s3, i64_w, i32_w]; rfl
            refine pure_ (i := 26) (N := some 40) (v := ?_) (a' := ?_) q3_27 rfl rfl (any_of HT_.out (by kernel_rfl)) (fun _ _ _ h => h) (Or.inl ⟨by rfl, ?_⟩) ?_ ?_; rotate_left
            · intro w'; go_simp; with_reducible rfl
            rotate_left
            · simp only [Act.put, s1, s2, s3, i64_w, i32_w]; rfl
            refine pure_ (i := 27) (N := some 41) (v := ?_) (a' := ?_) q3_28 rfl rfl (any_of HT_.out (by kernel_rfl)) (fun _ _ _ h => h) (Or.inl ⟨by rfl, ?_⟩) ?_ ?_; rotate_left
            · intro w'; go_simp; with_reducible rfl
            rotate_left
            · simp only [Act.put, s1, s2, s3, i64_w, i32_w]; rfl
            refine pure_ (i := 28) (N := some 42) (v := ?_) (a' := ?_) q3_29 rfl rfl (any_of HT_.out (by kernel_rfl)) (fun _ _ _ h => h) (Or.inl ⟨by rfl, ?_⟩) ?_ ?_; rotate_left
            · intro w'; go_simp; with_reducible rfl
            rotate_left
            · simp only [Act.put, s1, s2, s3, i64_w, i32_w]; rfl
            refine done_ (done_of HT_.out (by kernel_rfl)) ?_; try go_wp2
            go_ret; exact ⟨by first | rfl | (simp [errW_none, errW_some] <;> rfl) | (simp only [← hji13]; first | rfl | (simp [errW_none, errW_some] <;> rfl)) | (simp [*, errW_none, errW_some] <;> rfl), by repeat (first | (with_reducible first | exact HB.out | apply wA | apply wN | apply wD | refine wS ?_ GE102.out | refine wS ?_ GE104.out) | exact HB.out)⟩
           rw [if_neg c15] at H; exact absurd H (by simp)
          rw [if_neg c14] at H; exact absurd H (by simp)
         rw [if_neg c12] at H; have c12b0 : decide (0 < x9_1) = false := dF c12; clear c12; have H' := K0 H; clear H; have p103 : 0 ≤ (x9_1 : Int) := oT (by first | (with_reducible assumption) | assumption); have q103 : x9_1 < (l1.length : Int) := oT (by first | (with_reducible assumption) | assumption); obtain ⟨ad103, e103, hx103_0, hx103_1, hx103_2⟩ := at_T114b HR1.out HB.out x9_1 p103 q103; (try rw [← Nbq9.out] at hx103_2)
         cases e103; replace p103 := eq_true p103; replace q103 := eq_true q103; try go_wp2_with (first | ((with_reducible refine gate_dst (N := 6) rfl ?_); refine box_event ?hg (N := 6) ?hd (cs := #[.string (⟨#[]⟩ : ByteArray), .string (⟨#[]⟩ : ByteArray), .bool false]) (t := 114) ?hr ?_; (case hd => rfl); (case hg => rfl); (case hr => first | (go_simp; done) | (go_simp; rfl)); intro gb104 hg w29 hbox hb; have n0_ := K0 (bB (g := gb102) (o := .cells #[.string a0_0, .string a0_1, .bool a0_2] 32 (0, 0)) (by (with_reducible repeat (first | refine bN ?_ _ | refine bD ?_ | refine bA ?_ _)); exact BK102.out) hb); have n1_ := K0 (below_step (by repeat (first | (with_reducible first | exact HB.out | apply wA | apply wN | apply wD | refine wS ?_ GE102.out) | exact HB.out)) hb); have n2_ := K0 (hbox); have n3_ := K0 ((by rw [hg]; exact (below_size (by repeat (first | (with_reducible first | exact HB.out | apply wA | apply wN | apply wD | refine wS ?_ GE102.out) | exact HB.out))) : w.heap.size ≤ gb104)); have n4_ := K0 ((by rw [hg]; exact (below_size (by repeat (first | (with_reducible first | exact HB.out | apply wA | apply wN | apply wD | refine wS ?_ GE102.out) | exact HB.out))) : w.heap.size ≤ gb104)); have n5_ := K0 ((by rw [hg]; exact Nat.ne_of_lt (blk_lt (g := gb102) (o := .cells #[.string a0_0, .string a0_1, .bool a0_2] 32 (0, 0)) (by (with_reducible repeat (first | refine bN ?_ _ | refine bD ?_ | refine bA ?_ _)); exact BK102.out)) : gb102 ≠ gb104)); have n6_ := K0 ((by rw [hg]; exact Nat.ne_of_gt (blk_lt (g := gb102) (o := .cells #[.string a0_0, .string a0_1, .bool a0_2] 32 (0, 0)) (by (with_reducible repeat (first | refine bN ?_ _ | refine bD ?_ | refine bA ?_ _)); exact BK102.out)) : gb104 ≠ gb102)); clear BK102; clear HB; have BK102 := n0_; have HB := n1_; have BK104 := n2_; have GW104 := n3_; have GE104 := n4_; have NB102_104 := n5_; have NB104_102 := n6_; clear n0_ n1_ n2_ n3_ n4_ n5_ n6_; clear hb hbox hg; have hnb30 := NB104_102.out; have hnc30 := NB102_104.out; obtain ⟨hcz31_0, hcz31_1, hcz31_2⟩ := cellS3 BK104.out; obtain ⟨hfz31_0, hfz31_1, hfz31_2⟩ := frozS3 BK104.out))
         have n0_ : Aside0 ((((w29.setCell ⟨gb104, 0, none⟩ (.string ((rd_T114 l1 x9_1).f0))).setCell ⟨gb104, 1, none⟩ (.string ((rd_T114 l1 x9_1).f1))).setCell ⟨gb104, 2, none⟩ (.bool true)).heap[gb102]? = some (.cells #[.string a0_0, .string a0_1, .bool a0_2] 32 (0, 0))) := ⟨by (with_reducible repeat (first | refine bN ?_ _ | refine bD ?_ | refine bA ?_ _)); refine blk_far ?_ NB102_104.out _; (with_reducible repeat (first | refine bN ?_ _ | refine bD ?_ | refine bA ?_ _)); refine blk_far ?_ NB102_104.out _; (with_reducible repeat (first | refine bN ?_ _ | refine bD ?_ | refine bA ?_ _)); refine blk_far ?_ NB102_104.out _; (with_reducible repeat (first | refine bN ?_ _ | refine bD ?_ | refine bA ?_ _)); exact BK102.out⟩; have n1_ : Aside0 ((((w29.setCell ⟨gb104, 0, none⟩ (.string ((rd_T114 l1 x9_1).f0))).setCell ⟨gb104, 1, none⟩ (.string ((rd_T114 l1 x9_1).f1))).setCell ⟨gb104, 2, none⟩ (.bool true)).heap[gb104]? = some (.cells #[.string ((rd_T114 l1 x9_1).f0), .string ((rd_T114 l1 x9_1).f1), .bool true] 114 (0, 0))) := ⟨by (with_reducible repeat (first | refine bN ?_ _ | refine bD ?_ | refine bA ?_ _)); apply blkS3; (with_reducible repeat (first | refine bN ?_ _ | refine bD ?_ | refine bA ?_ _)); exact BK104.out⟩; have n2_ : Aside0 (Below w.heap.size w (((w29.setCell ⟨gb104, 0, none⟩ (.string ((rd_T114 l1 x9_1).f0))).setCell ⟨gb104, 1, none⟩ (.string ((rd_T114 l1 x9_1).f1))).setCell ⟨gb104, 2, none⟩ (.bool true))) := ⟨by repeat (first | (with_reducible first | exact HB.out | apply wA | apply wN | apply wD | refine wS ?_ GE102.out | refine wS ?_ GE104.out) | exact HB.out)⟩; (try clear BK102)
         (try clear BK104)
         (try clear HB)
         generalize (((w29.setCell ⟨gb104, 0, none⟩ (.string ((rd_T114 l1 x9_1).f0))).setCell ⟨gb104, 1, none⟩ (.string ((rd_T114 l1 x9_1).f1))).setCell ⟨gb104, 2, none⟩ (.bool true)) = w32 at n0_ n1_ n2_ ⊢; have BK102 := n0_; have BK104 := n1_; have HB := n2_; clear n0_ n1_ n2_; have n0_ := K0 (bD BK102.out); have n1_ := K0 (bD BK104.out); have n2_ := K0 (wD HB.out); clear BK102 BK104 HB; have BK102 := n0_; have BK104 := n1_; have HB := n2_; clear n0_ n1_ n2_; refine start_ (n := 29) (S := fun w' => w'.cell? ⟨gb102, 0, none⟩ = some (.string a0_0) ∧ w'.cell? ⟨gb102, 1, none⟩ = some (.string a0_1) ∧ w'.cell? ⟨gb102, 2, none⟩ = some (.bool a0_2) ∧ w'.cell? ⟨gb104, 0, none⟩ = some (.string ((rd_T114 l1 x9_1).f0)) ∧ w'.cell? ⟨gb104, 1, none⟩ = some (.string ((rd_T114 l1 x9_1).f1)) ∧ w'.cell? ⟨gb104, 2, none⟩ = some (.bool true)) (ds := []) q3_0 (by kernel_rfl) rfl rfl ⟨(bC BK102.out 0).trans rfl, (bC BK102.out 1).trans rfl, (bC BK102.out 2).trans rfl, (bC BK104.out 0).trans rfl, (bC BK104.out 1).trans rfl, (bC BK104.out 2).trans rfl⟩ (fun hHeld => ?_); refine with_tabW rev_rises.tab4 rev_rises.bits4 (fun HT_ HW_ => ?_)
         generalize w32.drew = w33 at BK102 BK104 HB hHeld ⊢; refine pure_ (i := 1) (N := some 15) (v := ?_) (a' := ?_) q3_1 rfl rfl (any_of HT_.out (by kernel_rfl)) (fun _ _ _ h => h) (Or.inl ⟨by rfl, ?_⟩) ?_ ?_; rotate_left
         · intro w'; go_simp; with_reducible rfl
         rotate_left
         · simp only [Act.put, s1, s2, s3, i64_w, i32_w]; rfl
         refine take_ (i := 0) (N := some 14) (v := ?_) (a' := ?_) q3_2 rfl rfl (take_ofW HT_.out HW_.out (by kernel_rfl)) (fun _ _ _ h => h) (Or.inl ⟨by rfl, ?_⟩) hHeld ?_ ?_; rotate_left
         · rintro w' ⟨s0, s1, s2, s3, s4, s5⟩; go_simp; with_reducible rfl
         rotate_left
         · simp only [Act.put, s1, s2, s3, i64_w, i32_w]; rfl
         refine take_ (i := 2) (N := some 16) (v := ?_) (a' := ?_) q3_3 rfl rfl (take_ofW HT_.out HW_.out (by kernel_rfl)) (fun _ _ _ h => h) (Or.inl ⟨by rfl, ?_⟩) hHeld ?_ ?_; rotate_left
         · rintro w' ⟨s0, s1, s2, s3, s4, s5⟩; go_simp; with_reducible rfl
         rotate_left
         · simp only [Act.put, s1, s2, s3, i64_w, i32_w]; rfl
         refine one_ (i := 3) (N := some 17) q3_4 rfl rfl (one_of HT_.out (by kernel_rfl)) (by decide) (fun K hK => ?_); refine goes_ Try.func67 (by kernel_rfl) rfl #[.agg #[.string a0_0, .string a0_1, .bool a0_2], .string ((rd_T114 l1 x9_1).f0)] (by rfl) rfl rfl (by (try simp only [List.map_toArray, List.map_cons, List.map_nil]); first | done | rfl | (simp only [lD, lT]; rfl)) ?_; with_reducible refine (key_Has.calls a0_0 a0_1 a0_2 ((rd_T114 l1 x9_1).f0) true _ A7.out).mono ?_
         rintro e w34 ⟨rfl, hb⟩; refine ⟨_, rfl, ?_⟩; have n0_ := K0 (bB (g := gb102) (o := .cells #[.string a0_0, .string a0_1, .bool a0_2] 32 (0, 0)) (by (with_reducible repeat (first | refine bN ?_ _ | refine bD ?_ | refine bA ?_ _)); exact BK102.out) hb); have n1_ := K0 (bB (g := gb104) (o := .cells #[.string ((rd_T114 l1 x9_1).f0), .string ((rd_T114 l1 x9_1).f1), .bool true] 114 (0, 0)) (by (with_reducible repeat (first | refine bN ?_ _ | refine bD ?_ | refine bA ?_ _)); exact BK104.out) hb); have n2_ := K0 (below_step (by repeat (first | (with_reducible first | exact HB.out | apply wA | apply wN | apply wD | refine wS ?_ GE102.out | refine wS ?_ GE104.out) | exact HB.out)) hb); clear BK102 BK104 HB; have BK102 := n0_; have BK104 := n1_; have HB := n2_; clear n0_ n1_ n2_; (try clear hb)
         (try clear hb2)
         (try clear hk)
         (try clear hi)
         refine hK.out _ _ ⟨(bC BK102.out 0).trans rfl, (bC BK102.out 1).trans rfl, (bC BK102.out 2).trans rfl, (bC BK104.out 0).trans rfl, (bC BK104.out 1).trans rfl, (bC BK104.out 2).trans rfl⟩ (fun hHeld => ?_); clear hK K; refine norm_ (a' := ?_) ?_ ?_; rotate_left
         · show Act.put _ (some 17) _ = _; simp only [Act.put, s1, s2, s3, i64_w, i32_w]; rfl
         refine pure_ (i := 4) (N := some 18) (v := ?_) (a' := ?_) q3_5 rfl rfl (any_of HT_.out (by kernel_rfl)) (fun _ _ _ h => h) (Or.inl ⟨by rfl, ?_⟩) ?_ ?_; rotate_left
         · intro w'; go_simp; with_reducible rfl
         rotate_left
         · simp only [Act.put, s1, s2, s3, i64_w, i32_w]; rfl
         refine pure_ (i := 5) (N := some 19) (v := ?_) (a' := ?_) q3_6 rfl rfl (any_of HT_.out (by kernel_rfl)) (fun _ _ _ h => h) (Or.inl ⟨by rfl, ?_⟩) ?_ ?_; rotate_left
         · intro w'; go_simp; with_reducible rfl
         rotate_left
         · simp only [Act.put, s1, s2, s3, i64_w, i32_w]; rfl
         refine pure_ (i := 6) (N := some 20) (v := ?_) (a' := ?_) q3_7 rfl rfl (any_of HT_.out (by kernel_rfl)) (fun _ _ _ h => h) (Or.inl ⟨by rfl, ?_⟩) ?_ ?_; rotate_left
         · intro w'; go_simp; with_reducible rfl
         rotate_left
         · simp only [Act.put, s1, s2, s3, i64_w, i32_w]; rfl
         refine take_ (i := 7) (N := some 21) (v := ?_) (a' := ?_) q3_8 rfl rfl (take_ofW HT_.out HW_.out (by kernel_rfl)) (fun _ _ _ h => h) (Or.inl ⟨by rfl, ?_⟩) hHeld ?_ ?_; rotate_left
         · rintro w' ⟨s0, s1, s2, s3, s4, s5⟩; go_simp; with_reducible rfl
         rotate_left
         · simp only [Act.put, s1, s2, s3, i64_w, i32_w]; rfl
         refine pure_ (i := 8) (N := some 22) (v := ?_) (a' := ?_) q3_9 rfl rfl (any_of HT_.out (by kernel_rfl)) (fun _ _ _ h => h) (Or.inl ⟨by rfl, ?_⟩) ?_ ?_; rotate_left
         · intro w'; go_simp; with_reducible rfl
         rotate_left
         · simp only [Act.put, s1, s2, s3, i64_w, i32_w]; rfl
         refine pure_ (i := 9) (N := some 23) (v := ?_) (a' := ?_) q3_10 rfl rfl (any_of HT_.out (by kernel_rfl)) (fun _ _ _ h => h) (Or.inl ⟨by rfl, ?_⟩) ?_ ?_; rotate_left
         · intro w'; go_simp; with_reducible rfl
         rotate_left
         · simp only [Act.put, s1, s2, s3, i64_w, i32_w]; rfl
         refine take_ (i := 10) (N := some 24) (v := ?_) (a' := ?_) q3_11 rfl rfl (take_ofW HT_.out HW_.out (by kernel_rfl)) (fun _ _ _ h => h) (Or.inl ⟨by rfl, ?_⟩) hHeld ?_ ?_; rotate_left
         · rintro w' ⟨s0, s1, s2, s3, s4, s5⟩; go_simp; with_reducible rfl
         rotate_left
         · simp only [Act.put, s1, s2, s3, i64_w, i32_w]; rfl
         refine pure_ (i := 11) (N := some 25) (v := ?_) (a' := ?_) q3_12 rfl rfl (any_of HT_.out (by kernel_rfl)) (fun _ _ _ h => h) (Or.inl ⟨by rfl, ?_⟩) ?_ ?_; rotate_left
         · intro w'; go_simp; with_reducible rfl
         rotate_left
         · simp only [Act.put, s1, s2, s3, i64_w, i32_w]; rfl
         refine pure_ (i := 12) (N := some 26) (v := ?_) (a' := ?_) q3_13 rfl rfl (any_of HT_.out (by kernel_rfl)) (fun _ _ _ h => h) (Or.inl ⟨by rfl, ?_⟩) ?_ ?_; rotate_left
         · intro w'; go_simp; with_reducible rfl
         rotate_left
         · simp only [Act.put, s1, s2, s3, i64_w, i32_w]; rfl
         refine pure_ (i := 13) (N := some 27) (v := ?_) (a' := ?_) q3_14 rfl rfl (any_of HT_.out (by kernel_rfl)) (fun _ _ _ h => h) (Or.inl ⟨by rfl, ?_⟩) ?_ ?_; rotate_left
         · intro w'; go_simp; with_reducible rfl
         rotate_left
         · simp only [Act.put, s1, s2, s3, i64_w, i32_w]; rfl
         refine pure_ (i := 14) (N := some 28) (v := ?_) (a' := ?_) q3_15 rfl rfl (any_of HT_.out (by kernel_rfl)) (fun _ _ _ h => h) (Or.inl ⟨by rfl, ?_⟩) ?_ ?_; rotate_left
         · intro w'; go_simp; with_reducible rfl
         rotate_left
         · simp only [Act.put, s1, s2, s3, i64_w, i32_w]; rfl
         refine pure_ (i := 15) (N := some 29) (v := ?_) (a' := ?_) q3_16 rfl rfl (any_of HT_.out (by kernel_rfl)) (fun _ _ _ h => h) (Or.inl ⟨by rfl, ?_⟩) ?_ ?_; rotate_left
         · intro w'; go_simp; with_reducible rfl
         rotate_left
         · simp only [Act.put, s1, s2, s3, i64_w, i32_w]; rfl
         refine pure_ (i := 16) (N := some 30) (v := ?_) (a' := ?_) q3_17 rfl rfl (any_of HT_.out (by kernel_rfl)) (fun _ _ _ h => h) (Or.inl ⟨by rfl, ?_⟩) ?_ ?_; rotate_left
         · intro w'; go_simp; with_reducible rfl
         rotate_left
         · simp only [Act.put, s1, s2, s3, i64_w, i32_w]; rfl
         refine pure_ (i := 17) (N := some 31) (v := ?_) (a' := ?_) q3_18 rfl rfl (any_of HT_.out (by kernel_rfl)) (fun _ _ _ h => h) (Or.inl ⟨by rfl, ?_⟩) ?_ ?_; rotate_left
         · intro w'; go_simp; with_reducible rfl
         rotate_left
         · simp only [Act.put, s1, s2, s3, i64_w, i32_w]; rfl
         refine pure_ (i := 18) (N := some 32) (v := undef) (a' := ?_) q3_19 rfl rfl (any_of HT_.out (by kernel_rfl)) (fun _ _ _ h => h) (Or.inr ⟨by rfl, rfl⟩) ?_ ?_; rotate_left
         · simp only [Act.put, s1, s2, s3, i64_w, i32_w]; rfl
         refine pure_ (i := 19) (N := some 33) (v := undef) (a' := ?_) q3_20 rfl rfl (any_of HT_.out (by kernel_rfl)) (fun _ _ _ h => h) (Or.inr ⟨by rfl, rfl⟩) ?_ ?_; rotate_left
         · simp only [Act.put, s1, s2, s3, i64_w, i32_w]; rfl
         refine pure_ (i := 20) (N := some 34) (v := undef) (a' := ?_) q3_21 rfl rfl (any_of HT_.out (by kernel_rfl)) (fun _ _ _ h => h) (Or.inr ⟨by rfl, rfl⟩) ?_ ?_; rotate_left
         · simp only [Act.put, s1, s2, s3, i64_w, i32_w]; rfl
         refine pure_ (i := 21) (N := some 35) (v := undef) (a' := ?_) q3_22 rfl rfl (any_of HT_.out (by kernel_rfl)) (fun _ _ _ h => h) (Or.inr ⟨by rfl, rfl⟩) ?_ ?_; rotate_left
         · simp only [Act.put, s1, s2, s3, i64_w, i32_w]; rfl
         refine pure_ (i := 22) (N := some 36) (v := undef) (a' := ?_) q3_23 rfl rfl (any_of HT_.out (by kernel_rfl)) (fun _ _ _ h => h) (Or.inr ⟨by rfl, rfl⟩) ?_ ?_; rotate_left
         · simp only [Act.put, s1, s2, s3, i64_w, i32_w]; rfl
         refine pure_ (i := 23) (N := some 37) (v := undef) (a' := ?_) q3_30 rfl rfl (any_of HT_.out (by kernel_rfl)) (fun _ _ _ h => h) (Or.inr ⟨by rfl, rfl⟩) ?_ ?_; rotate_left
         · simp only [Act.put, s1, s2, s3, i64_w, i32_w]; rfl
         refine pure_ (i := 24) (N := some 38) (v := undef) (a' := ?_) q3_25 rfl rfl (any_of HT_.out (by kernel_rfl)) (fun _ _ _ h => h) (Or.inr ⟨by rfl, rfl⟩) ?_ ?_; rotate_left
         · simp only [Act.put, s1, s2, s3, i64_w, i32_w]; rfl
         refine pure_ (i := 25) (N := some 39) (v := undef) (a' := ?_) q3_26 rfl rfl (any_of HT_.out (by kernel_rfl)) (fun _ _ _ h => h) (Or.inr ⟨by rfl, rfl⟩) ?_ ?_; rotate_left
         · simp only [Act.put, s1, s2, s3, i64_w, i32_w]; rfl
         refine pure_ (i := 26) (N := some 40) (v := undef) (a' := ?_) q3_27 rfl rfl (any_of HT_.out (by kernel_rfl)) (fun _ _ _ h => h) (Or.inr ⟨by rfl, rfl⟩) ?_ ?_; rotate_left
         · simp only [Act.put, s1, s2, s3, i64_w, i32_w]; rfl
         refine pure_ (i := 27) (N := some 41) (v := ?_) (a' := ?_) q3_28 rfl rfl (any_of HT_.out (by kernel_rfl)) (fun _ _ _ h => h) (Or.inl ⟨by rfl, ?_⟩) ?_ ?_; rotate_left
         · intro w'; go_simp; with_reducible rfl
         rotate_left
         · simp only [Act.put, s1, s2, s3, i64_w, i32_w]; rfl
         refine pure_ (i := 28) (N := some 42) (v := ?_) (a' := ?_) q3_29 rfl rfl (any_of HT_.out (by kernel_rfl)) (fun _ _ _ h => h) (Or.inl ⟨by rfl, ?_⟩) ?_ ?_; rotate_left
         · intro w'; go_simp; with_reducible rfl
         rotate_left
         · simp only [Act.put, s1, s2, s3, i64_w, i32_w]; rfl
         refine done_ (done_of HT_.out (by kernel_rfl)) ?_; try go_wp2
         go_roundg k1
         case measure => have := HK1.out; omega
         case rel => exact ⟨(wrap64 (x9_1 + 1)), (by first | rfl | (simp; done) | (simp [*]; done)), H', ⟨by have := HK1.out; omega⟩, ⟨by (with_reducible repeat (first | refine bN ?_ _ | refine bD ?_ | refine bA ?_ _)); exact BK102.out⟩, ⟨by repeat (first | (with_reducible first | exact HB.out | apply wA | apply wN | apply wD | refine wS ?_ GE102.out | refine wS ?_ GE104.out) | exact HB.out)⟩⟩
        rw [if_neg c11] at H; have c11b0 : (((rd_T114 l1 x9_1).f1).toList == ([] : List UInt8)) = false := beq_eq_false_iff_ne.mpr c11; have c11b1 : (((rd_T114 l1 x9_1).f1).toList != ([] : List UInt8)) = true := bne_iff_ne.mpr c11; obtain rfl := Option.some.inj H; have p103 : 0 ≤ (x9_1 : Int) := oT (by first | (with_reducible assumption) | assumption); have q103 : x9_1 < (l1.length : Int) := oT (by first | (with_reducible assumption) | assumption); obtain ⟨ad103, e103, hx103_0, hx103_1, hx103_2⟩ := at_T114b HR1.out HB.out x9_1 p103 q103; (try rw [← Nbq9.out] at hx103_2)
        cases e103; replace p103 := eq_true p103; replace q103 := eq_true q103; try go_wp2_with (first | ((with_reducible refine gate_dst (N := 6) rfl ?_); refine box_event ?hg (N := 6) ?hd (cs := #[.string (⟨#[]⟩ : ByteArray), .string (⟨#[]⟩ : ByteArray), .bool false]) (t := 114) ?hr ?_; (case hd => rfl); (case hg => rfl); (case hr => first | (go_simp; done) | (go_simp; rfl)); intro gb104 hg w35 hbox hb; have n0_ := K0 (bB (g := gb102) (o := .cells #[.string a0_0, .string a0_1, .bool a0_2] 32 (0, 0)) (by (with_reducible repeat (first | refine bN ?_ _ | refine bD ?_ | refine bA ?_ _)); exact BK102.out) hb); have n1_ := K0 (below_step (by repeat (first | (with_reducible first | exact HB.out | apply wA | apply wN | apply wD | refine wS ?_ GE102.out) | exact HB.out)) hb); have n2_ := K0 (hbox); have n3_ := K0 ((by rw [hg]; exact (below_size (by repeat (first | (with_reducible first | exact HB.out | apply wA | apply wN | apply wD | refine wS ?_ GE102.out) | exact HB.out))) : w.heap.size ≤ gb104)); have n4_ := K0 ((by rw [hg]; exact (below_size (by repeat (first | (with_reducible first | exact HB.out | apply wA | apply wN | apply wD | refine wS ?_ GE102.out) | exact HB.out))) : w.heap.size ≤ gb104)); have n5_ := K0 ((by rw [hg]; exact Nat.ne_of_lt (blk_lt (g := gb102) (o := .cells #[.string a0_0, .string a0_1, .bool a0_2] 32 (0, 0)) (by (with_reducible repeat (first | refine bN ?_ _ | refine bD ?_ | refine bA ?_ _)); exact BK102.out)) : gb102 ≠ gb104)); have n6_ := K0 ((by rw [hg]; exact Nat.ne_of_gt (blk_lt (g := gb102) (o := .cells #[.string a0_0, .string a0_1, .bool a0_2] 32 (0, 0)) (by (with_reducible repeat (first | refine bN ?_ _ | refine bD ?_ | refine bA ?_ _)); exact BK102.out)) : gb104 ≠ gb102)); clear BK102; clear HB; have BK102 := n0_; have HB := n1_; have BK104 := n2_; have GW104 := n3_; have GE104 := n4_; have NB102_104 := n5_; have NB104_102 := n6_; clear n0_ n1_ n2_ n3_ n4_ n5_ n6_; clear hb hbox hg; have hnb36 := NB104_102.out; have hnc36 := NB102_104.out; obtain ⟨hcz37_0, hcz37_1, hcz37_2⟩ := cellS3 BK104.out; obtain ⟨hfz37_0, hfz37_1, hfz37_2⟩ := frozS3 BK104.out))
        have n0_ : Aside0 ((((w35.setCell ⟨gb104, 0, none⟩ (.string ((rd_T114 l1 x9_1).f0))).setCell ⟨gb104, 1, none⟩ (.string ((rd_T114 l1 x9_1).f1))).setCell ⟨gb104, 2, none⟩ (.bool true)).heap[gb102]? = some (.cells #[.string a0_0, .string a0_1, .bool a0_2] 32 (0, 0))) := ⟨by (with_reducible repeat (first | refine bN ?_ _ | refine bD ?_ | refine bA ?_ _)); refine blk_far ?_ NB102_104.out _; (with_reducible repeat (first | refine bN ?_ _ | refine bD ?_ | refine bA ?_ _)); refine blk_far ?_ NB102_104.out _; (with_reducible repeat (first | refine bN ?_ _ | refine bD ?_ | refine bA ?_ _)); refine blk_far ?_ NB102_104.out _; (with_reducible repeat (first | refine bN ?_ _ | refine bD ?_ | refine bA ?_ _)); exact BK102.out⟩; have n1_ : Aside0 ((((w35.setCell ⟨gb104, 0, none⟩ (.string ((rd_T114 l1 x9_1).f0))).setCell ⟨gb104, 1, none⟩ (.string ((rd_T114 l1 x9_1).f1))).setCell ⟨gb104, 2, none⟩ (.bool true)).heap[gb104]? = some (.cells #[.string ((rd_T114 l1 x9_1).f0), .string ((rd_T114 l1 x9_1).f1), .bool true] 114 (0, 0))) := ⟨by (with_reducible repeat (first | refine bN ?_ _ | refine bD ?_ | refine bA ?_ _)); apply blkS3; (with_reducible repeat (first | refine bN ?_ _ | refine bD ?_ | refine bA ?_ _)); exact BK104.out⟩; have n2_ : Aside0 (Below w.heap.size w (((w35.setCell ⟨gb104, 0, none⟩ (.string ((rd_T114 l1 x9_1).f0))).setCell ⟨gb104, 1, none⟩ (.string ((rd_T114 l1 x9_1).f1))).setCell ⟨gb104, 2, none⟩ (.bool true))) := ⟨by repeat (first | (with_reducible first | exact HB.out | apply wA | apply wN | apply wD | refine wS ?_ GE102.out | refine wS ?_ GE104.out) | exact HB.out)⟩; (try clear BK102)
        (try clear BK104)
        (try clear HB)
        generalize (((w35.setCell ⟨gb104, 0, none⟩ (.string ((rd_T114 l1 x9_1).f0))).setCell ⟨gb104, 1, none⟩ (.string ((rd_T114 l1 x9_1).f1))).setCell ⟨gb104, 2, none⟩ (.bool true)) = w38 at n0_ n1_ n2_ ⊢; have BK102 := n0_; have BK104 := n1_; have HB := n2_; clear n0_ n1_ n2_; have n0_ := K0 (bD BK102.out); have n1_ := K0 (bD BK104.out); have n2_ := K0 (wD HB.out); clear BK102 BK104 HB; have BK102 := n0_; have BK104 := n1_; have HB := n2_; clear n0_ n1_ n2_; refine start_ (n := 29) (S := fun w' => w'.cell? ⟨gb102, 0, none⟩ = some (.string a0_0) ∧ w'.cell? ⟨gb102, 1, none⟩ = some (.string a0_1) ∧ w'.cell? ⟨gb102, 2, none⟩ = some (.bool a0_2) ∧ w'.cell? ⟨gb104, 0, none⟩ = some (.string ((rd_T114 l1 x9_1).f0)) ∧ w'.cell? ⟨gb104, 1, none⟩ = some (.string ((rd_T114 l1 x9_1).f1)) ∧ w'.cell? ⟨gb104, 2, none⟩ = some (.bool true)) (ds := []) q3_0 (by kernel_rfl) rfl rfl ⟨(bC BK102.out 0).trans rfl, (bC BK102.out 1).trans rfl, (bC BK102.out 2).trans rfl, (bC BK104.out 0).trans rfl, (bC BK104.out 1).trans rfl, (bC BK104.out 2).trans rfl⟩ (fun hHeld => ?_); refine with_tabW rev_rises.tab4 rev_rises.bits4 (fun HT_ HW_ => ?_)
        generalize w38.drew = w39 at BK102 BK104 HB hHeld ⊢; refine pure_ (i := 1) (N := some 15) (v := ?_) (a' := ?_) q3_1 rfl rfl (any_of HT_.out (by kernel_rfl)) (fun _ _ _ h => h) (Or.inl ⟨by rfl, ?_⟩) ?_ ?_; rotate_left
        · intro w'; go_simp; with_reducible rfl
        rotate_left
        · simp only [Act.put, s1, s2, s3, i64_w, i32_w]; rfl
        refine take_ (i := 0) (N := some 14) (v := ?_) (a' := ?_) q3_2 rfl rfl (take_ofW HT_.out HW_.out (by kernel_rfl)) (fun _ _ _ h => h) (Or.inl ⟨by rfl, ?_⟩) hHeld ?_ ?_; rotate_left
        · rintro w' ⟨s0, s1, s2, s3, s4, s5⟩; go_simp; with_reducible rfl
        rotate_left
        · simp only [Act.put, s1, s2, s3, i64_w, i32_w]; rfl
        refine take_ (i := 2) (N := some 16) (v := ?_) (a' := ?_) q3_3 rfl rfl (take_ofW HT_.out HW_.out (by kernel_rfl)) (fun _ _ _ h => h) (Or.inl ⟨by rfl, ?_⟩) hHeld ?_ ?_; rotate_left
        · rintro w' ⟨s0, s1, s2, s3, s4, s5⟩; go_simp; with_reducible rfl
        rotate_left
        · simp only [Act.put, s1, s2, s3, i64_w, i32_w]; rfl
        refine one_ (i := 3) (N := some 17) q3_4 rfl rfl (one_of HT_.out (by kernel_rfl)) (by decide) (fun K hK => ?_); refine goes_ Try.func67 (by kernel_rfl) rfl #[.agg #[.string a0_0, .string a0_1, .bool a0_2], .string ((rd_T114 l1 x9_1).f0)] (by rfl) rfl rfl (by (try simp only [List.map_toArray, List.map_cons, List.map_nil]); first | done | rfl | (simp only [lD, lT]; rfl)) ?_; with_reducible refine (key_Has.calls a0_0 a0_1 a0_2 ((rd_T114 l1 x9_1).f0) true _ A7.out).mono ?_
        rintro e w40 ⟨rfl, hb⟩; refine ⟨_, rfl, ?_⟩; have n0_ := K0 (bB (g := gb102) (o := .cells #[.string a0_0, .string a0_1, .bool a0_2] 32 (0, 0)) (by (with_reducible repeat (first | refine bN ?_ _ | refine bD ?_ | refine bA ?_ _)); exact BK102.out) hb); have n1_ := K0 (bB (g := gb104) (o := .cells #[.string ((rd_T114 l1 x9_1).f0), .string ((rd_T114 l1 x9_1).f1), .bool true] 114 (0, 0)) (by (with_reducible repeat (first | refine bN ?_ _ | refine bD ?_ | refine bA ?_ _)); exact BK104.out) hb); have n2_ := K0 (below_step (by repeat (first | (with_reducible first | exact HB.out | apply wA | apply wN | apply wD | refine wS ?_ GE102.out | refine wS ?_ GE104.out) | exact HB.out)) hb); clear BK102 BK104 HB; have BK102 := n0_; have BK104 := n1_; have HB := n2_; clear n0_ n1_ n2_; (try clear hb)
        (try clear hb2)
        (try clear hk)
        (try clear hi)
        refine hK.out _ _ ⟨(bC BK102.out 0).trans rfl, (bC BK102.out 1).trans rfl, (bC BK102.out 2).trans rfl, (bC BK104.out 0).trans rfl, (bC BK104.out 1).trans rfl, (bC BK104.out 2).trans rfl⟩ (fun hHeld => ?_); clear hK K; refine norm_ (a' := ?_) ?_ ?_; rotate_left
        · show Act.put _ (some 17) _ = _; simp only [Act.put, s1, s2, s3, i64_w, i32_w]; rfl
        refine pure_ (i := 4) (N := some 18) (v := ?_) (a' := ?_) q3_5 rfl rfl (any_of HT_.out (by kernel_rfl)) (fun _ _ _ h => h) (Or.inl ⟨by rfl, ?_⟩) ?_ ?_; rotate_left
        · intro w'; go_simp; with_reducible rfl
        rotate_left
        · simp only [Act.put, s1, s2, s3, i64_w, i32_w]; rfl
        refine pure_ (i := 5) (N := some 19) (v := ?_) (a' := ?_) q3_6 rfl rfl (any_of HT_.out (by kernel_rfl)) (fun _ _ _ h => h) (Or.inl ⟨by rfl, ?_⟩) ?_ ?_; rotate_left
        · intro w'; go_simp; with_reducible rfl
        rotate_left
        · simp only [Act.put, s1, s2, s3, i64_w, i32_w]; rfl
        refine pure_ (i := 6) (N := some 20) (v := ?_) (a' := ?_) q3_7 rfl rfl (any_of HT_.out (by kernel_rfl)) (fun _ _ _ h => h) (Or.inl ⟨by rfl, ?_⟩) ?_ ?_; rotate_left
        · intro w'; go_simp; with_reducible rfl
        rotate_left
        · simp only [Act.put, s1, s2, s3, i64_w, i32_w]; rfl
        refine take_ (i := 7) (N := some 21) (v := ?_) (a' := ?_) q3_8 rfl rfl (take_ofW HT_.out HW_.out (by kernel_rfl)) (fun _ _ _ h => h) (Or.inl ⟨by rfl, ?_⟩) hHeld ?_ ?_; rotate_left
        · rintro w' ⟨s0, s1, s2, s3, s4, s5⟩; go_simp; with_reducible rfl
        rotate_left
        · simp only [Act.put, s1, s2, s3, i64_w, i32_w]; rfl
        refine pure_ (i := 8) (N := some 22) (v := ?_) (a' := ?_) q3_9 rfl rfl (any_of HT_.out (by kernel_rfl)) (fun _ _ _ h => h) (Or.inl ⟨by rfl, ?_⟩) ?_ ?_; rotate_left
        · intro w'; go_simp; with_reducible rfl
        rotate_left
        · simp only [Act.put, s1, s2, s3, i64_w, i32_w]; rfl
        refine pure_ (i := 9) (N := some 23) (v := ?_) (a' := ?_) q3_10 rfl rfl (any_of HT_.out (by kernel_rfl)) (fun _ _ _ h => h) (Or.inl ⟨by rfl, ?_⟩) ?_ ?_; rotate_left
        · intro w'; go_simp; with_reducible rfl
        rotate_left
        · simp only [Act.put, s1, s2, s3, i64_w, i32_w]; rfl
        refine take_ (i := 10) (N := some 24) (v := ?_) (a' := ?_) q3_11 rfl rfl (take_ofW HT_.out HW_.out (by kernel_rfl)) (fun _ _ _ h => h) (Or.inl ⟨by rfl, ?_⟩) hHeld ?_ ?_; rotate_left
        · rintro w' ⟨s0, s1, s2, s3, s4, s5⟩; go_simp; with_reducible rfl
        rotate_left
        · simp only [Act.put, s1, s2, s3, i64_w, i32_w]; rfl
        refine pure_ (i := 11) (N := some 25) (v := ?_) (a' := ?_) q3_12 rfl rfl (any_of HT_.out (by kernel_rfl)) (fun _ _ _ h => h) (Or.inl ⟨by rfl, ?_⟩) ?_ ?_; rotate_left
        · intro w'; go_simp; with_reducible rfl
        rotate_left
        · simp only [Act.put, s1, s2, s3, i64_w, i32_w]; rfl
        refine pure_ (i := 12) (N := some 26) (v := ?_) (a' := ?_) q3_13 rfl rfl (any_of HT_.out (by kernel_rfl)) (fun _ _ _ h => h) (Or.inl ⟨by rfl, ?_⟩) ?_ ?_; rotate_left
        · intro w'; go_simp; with_reducible rfl
        rotate_left
        · simp only [Act.put, s1, s2, s3, i64_w, i32_w]; rfl
        refine pure_ (i := 13) (N := some 27) (v := ?_) (a' := ?_) q3_14 rfl rfl (any_of HT_.out (by kernel_rfl)) (fun _ _ _ h => h) (Or.inl ⟨by rfl, ?_⟩) ?_ ?_; rotate_left
        · intro w'; go_simp; with_reducible rfl
        rotate_left
        · simp only [Act.put, s1, s2, s3, i64_w, i32_w]; rfl
        refine pure_ (i := 14) (N := some 28) (v := ?_) (a' := ?_) q3_15 rfl rfl (any_of HT_.out (by kernel_rfl)) (fun _ _ _ h => h) (Or.inl ⟨by rfl, ?_⟩) ?_ ?_; rotate_left
        · intro w'; go_simp; with_reducible rfl
        rotate_left
        · simp only [Act.put, s1, s2, s3, i64_w, i32_w]; rfl
        refine pure_ (i := 15) (N := some 29) (v := undef) (a' := ?_) q3_16 rfl rfl (any_of HT_.out (by kernel_rfl)) (fun _ _ _ h => h) (Or.inr ⟨by rfl, rfl⟩) ?_ ?_; rotate_left
        · simp only [Act.put, s1, s2, s3, i64_w, i32_w]; rfl
        refine pure_ (i := 16) (N := some 30) (v := undef) (a' := ?_) q3_17 rfl rfl (any_of HT_.out (by kernel_rfl)) (fun _ _ _ h => h) (Or.inr ⟨by rfl, rfl⟩) ?_ ?_; rotate_left
        · simp only [Act.put, s1, s2, s3, i64_w, i32_w]; rfl
        refine pure_ (i := 17) (N := some 31) (v := undef) (a' := ?_) q3_18 rfl rfl (any_of HT_.out (by kernel_rfl)) (fun _ _ _ h => h) (Or.inr ⟨by rfl, rfl⟩) ?_ ?_; rotate_left
        · simp only [Act.put, s1, s2, s3, i64_w, i32_w]; rfl
        refine pure_ (i := 18) (N := some 32) (v := undef) (a' := ?_) q3_19 rfl rfl (any_of HT_.out (by kernel_rfl)) (fun _ _ _ h => h) (Or.inr ⟨by rfl, rfl⟩) ?_ ?_; rotate_left
        · simp only [Act.put, s1, s2, s3, i64_w, i32_w]; rfl
        refine pure_ (i := 19) (N := some 33) (v := undef) (a' := ?_) q3_20 rfl rfl (any_of HT_.out (by kernel_rfl)) (fun _ _ _ h => h) (Or.inr ⟨by rfl, rfl⟩) ?_ ?_; rotate_left
        · simp only [Act.put, s1, s2, s3, i64_w, i32_w]; rfl
        refine pure_ (i := 20) (N := some 34) (v := undef) (a' := ?_) q3_21 rfl rfl (any_of HT_.out (by kernel_rfl)) (fun _ _ _ h => h) (Or.inr ⟨by rfl, rfl⟩) ?_ ?_; rotate_left
        · simp only [Act.put, s1, s2, s3, i64_w, i32_w]; rfl
        refine pure_ (i := 21) (N := some 35) (v := undef) (a' := ?_) q3_22 rfl rfl (any_of HT_.out (by kernel_rfl)) (fun _ _ _ h => h) (Or.inr ⟨by rfl, rfl⟩) ?_ ?_; rotate_left
        · simp only [Act.put, s1, s2, s3, i64_w, i32_w]; rfl
        refine pure_ (i := 22) (N := some 36) (v := undef) (a' := ?_) q3_23 rfl rfl (any_of HT_.out (by kernel_rfl)) (fun _ _ _ h => h) (Or.inr ⟨by rfl, rfl⟩) ?_ ?_; rotate_left
        · simp only [Act.put, s1, s2, s3, i64_w, i32_w]; rfl
        refine pure_ (i := 23) (N := some 37) (v := undef) (a' := ?_) q3_30 rfl rfl (any_of HT_.out (by kernel_rfl)) (fun _ _ _ h => h) (Or.inr ⟨by rfl, rfl⟩) ?_ ?_; rotate_left
        · simp only [Act.put, s1, s2, s3, i64_w, i32_w]; rfl
        refine pure_ (i := 24) (N := some 38) (v := undef) (a' := ?_) q3_25 rfl rfl (any_of HT_.out (by kernel_rfl)) (fun _ _ _ h => h) (Or.inr ⟨by rfl, rfl⟩) ?_ ?_; rotate_left
        · simp only [Act.put, s1, s2, s3, i64_w, i32_w]; rfl
        refine pure_ (i := 25) (N := some 39) (v := undef) (a' := ?_) q3_26 rfl rfl (any_of HT_.out (by kernel_rfl)) (fun _ _ _ h => h) (Or.inr ⟨by rfl, rfl⟩) ?_ ?_; rotate_left
        · simp only [Act.put, s1, s2, s3, i64_w, i32_w]; rfl
        refine pure_ (i := 26) (N := some 40) (v := undef) (a' := ?_) q3_27 rfl rfl (any_of HT_.out (by kernel_rfl)) (fun _ _ _ h => h) (Or.inr ⟨by rfl, rfl⟩) ?_ ?_; rotate_left
        · simp only [Act.put, s1, s2, s3, i64_w, i32_w]; rfl
        refine pure_ (i := 27) (N := some 41) (v := undef) (a' := ?_) q3_28 rfl rfl (any_of HT_.out (by kernel_rfl)) (fun _ _ _ h => h) (Or.inr ⟨by rfl, rfl⟩) ?_ ?_; rotate_left
        · simp only [Act.put, s1, s2, s3, i64_w, i32_w]; rfl
        refine pure_ (i := 28) (N := some 42) (v := ?_) (a' := ?_) q3_29 rfl rfl (any_of HT_.out (by kernel_rfl)) (fun _ _ _ h => h) (Or.inl ⟨by rfl, ?_⟩) ?_ ?_; rotate_left
        · intro w'; go_simp; with_reducible rfl
        rotate_left
        · simp only [Act.put, s1, s2, s3, i64_w, i32_w]; rfl
        refine done_ (done_of HT_.out (by kernel_rfl)) ?_; try go_wp2
        go_ret; exact ⟨by first | rfl | (simp [errW_none, errW_some] <;> rfl) | (simp [*, errW_none, errW_some] <;> rfl), by repeat (first | (with_reducible first | exact HB.out | apply wA | apply wN | apply wD | refine wS ?_ GE102.out | refine wS ?_ GE104.out) | exact HB.out)⟩
       replace c10 := Bool.eq_false_iff.mpr c10; subst c10; have H1 : (if x9_1 > 0 then (if 0 ≤ (wrap64 (x9_1 - 1)) then (if (wrap64 (x9_1 - 1)) < (l1.length : Int) then (if ((Op.bytesLess (((rd_T114 l1 (wrap64 (x9_1 - 1))).f0).toList) (((rd_T114 l1 x9_1).f0).toList)) = true) then (rev_rises.l0 k1 l1 l1 (l1.length : Int) (wrap64 (x9_1 + 1)) a0_0 a0_1 a0_2) else (some false)) else (none)) else (none)) else (rev_rises.l0 k1 l1 l1 (l1.length : Int) (wrap64 (x9_1 + 1)) a0_0 a0_1 a0_2)) = some r := by rw [if_neg (show ¬ (false = true) by decide)] at H; exact H
       clear H; have H := H1; clear H1; by_cases c41 : x9_1 > 0
       ·
        rw [if_pos c41] at H; have c41b0 : decide (0 < x9_1) = true := dT c41; clear c41; obtain ⟨ji42, hji42⟩ : ∃ j_ : Int, (wrap64 (x9_1 - 1)) = j_ := ⟨_, rfl⟩; replace H : (if 0 ≤ (ji42) then (if (ji42) < (l1.length : Int) then (if ((Op.bytesLess (((rd_T114 l1 (ji42)).f0).toList) (((rd_T114 l1 x9_1).f0).toList)) = true) then (rev_rises.l0 k1 l1 l1 (l1.length : Int) (wrap64 (x9_1 + 1)) a0_0 a0_1 a0_2) else (some false)) else (none)) else (none)) = some r := by first | (rw [hji42] at H; exact H) | (simp only [hji42] at H ⊢; exact H)
        (try rw [hji42] at A7)
        have hji42w : (IntKind.i64.wrap (x9_1 - 1)) = ji42 := (i64_w _).trans hji42; by_cases c43 : 0 ≤ (ji42)
        ·
         rw [if_pos c43] at H; have c43b0 : decide (0 ≤ (ji42)) = true := dT c43; clear c43; by_cases c44 : (ji42) < (l1.length : Int)
         ·
          rw [if_pos c44] at H; have c44b0 : decide ((ji42) < (l1.length : Int)) = true := dT c44; clear c44; by_cases c45 : ((Op.bytesLess (((rd_T114 l1 (ji42)).f0).toList) (((rd_T114 l1 x9_1).f0).toList)) = true)
          ·
           rw [if_pos c45] at H; have c45b0 : (Op.bytesLess (((rd_T114 l1 (ji42)).f0).toList) (((rd_T114 l1 x9_1).f0).toList)) = true := c45; clear c45; have H' := K0 H; clear H; have p103 : 0 ≤ (x9_1 : Int) := oT (by first | (with_reducible assumption) | assumption); have q103 : x9_1 < (l1.length : Int) := oT (by first | (with_reducible assumption) | assumption); obtain ⟨ad103, e103, hx103_0, hx103_1, hx103_2⟩ := at_T114b HR1.out HB.out x9_1 p103 q103; (try rw [← Nbq9.out] at hx103_2)
           cases e103; replace p103 := eq_true p103; replace q103 := eq_true q103; try go_wp2_with (first | ((with_reducible refine gate_dst (N := 6) rfl ?_); refine box_event ?hg (N := 6) ?hd (cs := #[.string (⟨#[]⟩ : ByteArray), .string (⟨#[]⟩ : ByteArray), .bool false]) (t := 114) ?hr ?_; (case hd => rfl); (case hg => rfl); (case hr => first | (go_simp; done) | (go_simp; rfl)); intro gb104 hg w46 hbox hb; have n0_ := K0 (bB (g := gb102) (o := .cells #[.string a0_0, .string a0_1, .bool a0_2] 32 (0, 0)) (by (with_reducible repeat (first | refine bN ?_ _ | refine bD ?_ | refine bA ?_ _)); exact BK102.out) hb); have n1_ := K0 (below_step (by repeat (first | (with_reducible first | exact HB.out | apply wA | apply wN | apply wD | refine wS ?_ GE102.out) | exact HB.out)) hb); have n2_ := K0 (hbox); have n3_ := K0 ((by rw [hg]; exact (below_size (by repeat (first | (with_reducible first | exact HB.out | apply wA | apply wN | apply wD | refine wS ?_ GE102.out) | exact HB.out))) : w.heap.size ≤ gb104)); have n4_ := K0 ((by rw [hg]; exact (below_size (by repeat (first | (with_reducible first | exact HB.out | apply wA | apply wN | apply wD | refine wS ?_ GE102.out) | exact HB.out))) : w.heap.size ≤ gb104)); have n5_ := K0 ((by rw [hg]; exact Nat.ne_of_lt (blk_lt (g := gb102) (o := .cells #[.string a0_0, .string a0_1, .bool a0_2] 32 (0, 0)) (by (with_reducible repeat (first | refine bN ?_ _ | refine bD ?_ | refine bA ?_ _)); exact BK102.out)) : gb102 ≠ gb104)); have n6_ := K0 ((by rw [hg]; exact Nat.ne_of_gt (blk_lt (g := gb102) (o := .cells #[.string a0_0, .string a0_1, .bool a0_2] 32 (0, 0)) (by (with_reducible repeat (first | refine bN ?_ _ | refine bD ?_ | refine bA ?_ _)); exact BK102.out)) : gb104 ≠ gb102)); clear BK102; clear HB; have BK102 := n0_; have HB := n1_; have BK104 := n2_; have GW104 := n3_; have GE104 := n4_; have NB102_104 := n5_; have NB104_102 := n6_; clear n0_ n1_ n2_ n3_ n4_ n5_ n6_; clear hb hbox hg; have hnb47 := NB104_102.out; have hnc47 := NB102_104.out; obtain ⟨hcz48_0, hcz48_1, hcz48_2⟩ := cellS3 BK104.out; obtain ⟨hfz48_0, hfz48_1, hfz48_2⟩ := frozS3 BK104.out))
           have n0_ : Aside0 ((((w46.setCell ⟨gb104, 0, none⟩ (.string ((rd_T114 l1 x9_1).f0))).setCell ⟨gb104, 1, none⟩ (.string ((rd_T114 l1 x9_1).f1))).setCell ⟨gb104, 2, none⟩ (.bool false)).heap[gb102]? = some (.cells #[.string a0_0, .string a0_1, .bool a0_2] 32 (0, 0))) := ⟨by (with_reducible repeat (first | refine bN ?_ _ | refine bD ?_ | refine bA ?_ _)); refine blk_far ?_ NB102_104.out _; (with_reducible repeat (first | refine bN ?_ _ | refine bD ?_ | refine bA ?_ _)); refine blk_far ?_ NB102_104.out _; (with_reducible repeat (first | refine bN ?_ _ | refine bD ?_ | refine bA ?_ _)); refine blk_far ?_ NB102_104.out _; (with_reducible repeat (first | refine bN ?_ _ | refine bD ?_ | refine bA ?_ _)); exact BK102.out⟩; have n1_ : Aside0 ((((w46.setCell ⟨gb104, 0, none⟩ (.string ((rd_T114 l1 x9_1).f0))).setCell ⟨gb104, 1, none⟩ (.string ((rd_T114 l1 x9_1).f1))).setCell ⟨gb104, 2, none⟩ (.bool false)).heap[gb104]? = some (.cells #[.string ((rd_T114 l1 x9_1).f0), .string ((rd_T114 l1 x9_1).f1), .bool false] 114 (0, 0))) := ⟨by (with_reducible repeat (first | refine bN ?_ _ | refine bD ?_ | refine bA ?_ _)); apply blkS3; (with_reducible repeat (first | refine bN ?_ _ | refine bD ?_ | refine bA ?_ _)); exact BK104.out⟩; have n2_ : Aside0 (Below w.heap.size w (((w46.setCell ⟨gb104, 0, none⟩ (.string ((rd_T114 l1 x9_1).f0))).setCell ⟨gb104, 1, none⟩ (.string ((rd_T114 l1 x9_1).f1))).setCell ⟨gb104, 2, none⟩ (.bool false))) := ⟨by repeat (first | (with_reducible first | exact HB.out | apply wA | apply wN | apply wD | refine wS ?_ GE102.out | refine wS ?_ GE104.out) | exact HB.out)⟩; (try clear BK102)
           (try clear BK104)
           (try clear HB)
           generalize (((w46.setCell ⟨gb104, 0, none⟩ (.string ((rd_T114 l1 x9_1).f0))).setCell ⟨gb104, 1, none⟩ (.string ((rd_T114 l1 x9_1).f1))).setCell ⟨gb104, 2, none⟩ (.bool false)) = w49 at n0_ n1_ n2_ ⊢; have BK102 := n0_; have BK104 := n1_; have HB := n2_; clear n0_ n1_ n2_; have n0_ := K0 (bD BK102.out); have n1_ := K0 (bD BK104.out); have n2_ := K0 (wD HB.out); clear BK102 BK104 HB; have BK102 := n0_; have BK104 := n1_; have HB := n2_; clear n0_ n1_ n2_; have p107 : 0 ≤ ((ji42) : Int) := oT (by first | (with_reducible assumption) | assumption); have q107 : (ji42) < (l1.length : Int) := oT (by first | (with_reducible assumption) | assumption); obtain ⟨ad107, e107, hx107_0, hx107_1, hx107_2⟩ := at_T114 HR1.out (ji42) p107 q107; have hw107_2 := hx107_2; have hw107_1 := hx107_1; have hw107_0 := hx107_0; (try rw [← Nbq9.out] at hx107_2)
           obtain rfl : ad103 = ad107 := (by injection e107); replace hx107_0 := (HB.out.cell (bL w _ hx107_0)).trans hx107_0; replace hx107_1 := (HB.out.cell (bL w _ hx107_1)).trans hx107_1; replace hx107_2 := (HB.out.cell (bL w _ hx107_2)).trans hx107_2; replace p107 := eq_true p107; replace q107 := eq_true q107; refine start_ (n := 29) (S := fun w' => w'.cell? ⟨gb102, 0, none⟩ = some (.string a0_0) ∧ w'.cell? ⟨gb102, 1, none⟩ = some (.string a0_1) ∧ w'.cell? ⟨gb102, 2, none⟩ = some (.bool a0_2) ∧ w'.cell? ⟨gb104, 0, none⟩ = some (.string ((rd_T114 l1 x9_1).f0)) ∧ w'.cell? ⟨gb104, 1, none⟩ = some (.string ((rd_T114 l1 x9_1).f1)) ∧ w'.cell? ⟨gb104, 2, none⟩ = some (.bool false) ∧ w'.cell? (ad103.add (((ji42)).toNat * 3)) = some (.string ((rd_T114 l1 (ji42)).f0)) ∧ w'.cell? ⟨(ad103.add (((ji42)).toNat * 3)).block, (ad103.add (((ji42)).toNat * 3)).off + 1, none⟩ = some (.string ((rd_T114 l1 (ji42)).f1)) ∧ w'.cell? ⟨(ad103.add (((ji42)).toNat * 3)).block, (ad103.add (((ji42)).toNat * 3)).off + 2, none⟩ = some (.bool ((rd_T114 l1 (ji42)).f2))) (ds := []) q3_0 (by kernel_rfl) rfl rfl ⟨(bC BK102.out 0).trans rfl, (bC BK102.out 1).trans rfl, (bC BK102.out 2).trans rfl, (bC BK104.out 0).trans rfl, (bC BK104.out 1).trans rfl, (bC BK104.out 2).trans rfl, ((HB.out.cell (bL w _ hw107_0)).trans hw107_0), ((HB.out.cell (bL w _ hw107_1)).trans hw107_1), ((HB.out.cell (bL w _ hw107_2)).trans hw107_2)⟩ (fun hHeld => ?_); refine with_tabW rev_rises.tab4 rev_rises.bits4 (fun HT_ HW_ => ?_)
           generalize w49.drew = w50 at BK102 BK104 HB hx107_0 hx107_1 hx107_2 hHeld ⊢; refine pure_ (i := 1) (N := some 15) (v := ?_) (a' := ?_) q3_1 rfl rfl (any_of HT_.out (by kernel_rfl)) (fun _ _ _ h => h) (Or.inl ⟨by rfl, ?_⟩) ?_ ?_; rotate_left
           · intro w'; go_simp; with_reducible rfl
           rotate_left
           · simp only [Act.put, s1, s2, s3, i64_w, i32_w]; rfl
           refine take_ (i := 0) (N := some 14) (v := ?_) (a' := ?_) q3_2 rfl rfl (take_ofW HT_.out HW_.out (by kernel_rfl)) (fun _ _ _ h => h) (Or.inl ⟨by rfl, ?_⟩) hHeld ?_ ?_; rotate_left
           · rintro w' ⟨s0, s1, s2, s3, s4, s5, s6, s7, s8⟩; go_simp; with_reducible rfl
           rotate_left
           · simp only [Act.put, s1, s2, s3, i64_w, i32_w]; rfl
           refine take_ (i := 2) (N := some 16) (v := ?_) (a' := ?_) q3_3 rfl rfl (take_ofW HT_.out HW_.out (by kernel_rfl)) (fun _ _ _ h => h) (Or.inl ⟨by rfl, ?_⟩) hHeld ?_ ?_; rotate_left
           · rintro w' ⟨s0, s1, s2, s3, s4, s5, s6, s7, s8⟩; go_simp; with_reducible rfl
           rotate_left
           · simp only [Act.put, s1, s2, s3, i64_w, i32_w]; rfl
           refine one_ (i := 3) (N := some 17) q3_4 rfl rfl (one_of HT_.out (by kernel_rfl)) (by decide) (fun K hK => ?_); refine goes_ Try.func67 (by kernel_rfl) rfl #[.agg #[.string a0_0, .string a0_1, .bool a0_2], .string ((rd_T114 l1 x9_1).f0)] (by rfl) rfl rfl (by (try simp only [List.map_toArray, List.map_cons, List.map_nil]); first | done | rfl | (simp only [lD, lT]; rfl)) ?_; with_reducible refine (key_Has.calls a0_0 a0_1 a0_2 ((rd_T114 l1 x9_1).f0) true _ A7.out).mono ?_
           rintro e w51 ⟨rfl, hb⟩; refine ⟨_, rfl, ?_⟩; have n0_ := K0 (bB (g := gb102) (o := .cells #[.string a0_0, .string a0_1, .bool a0_2] 32 (0, 0)) (by (with_reducible repeat (first | refine bN ?_ _ | refine bD ?_ | refine bA ?_ _)); exact BK102.out) hb); have n1_ := K0 (bB (g := gb104) (o := .cells #[.string ((rd_T114 l1 x9_1).f0), .string ((rd_T114 l1 x9_1).f1), .bool false] 114 (0, 0)) (by (with_reducible repeat (first | refine bN ?_ _ | refine bD ?_ | refine bA ?_ _)); exact BK104.out) hb); have n2_ := K0 (below_step (by repeat (first | (with_reducible first | exact HB.out | apply wA | apply wN | apply wD | refine wS ?_ GE102.out | refine wS ?_ GE104.out) | exact HB.out)) hb); clear BK102 BK104 HB; have BK102 := n0_; have BK104 := n1_; have HB := n2_; clear n0_ n1_ n2_; (try clear hb)
           (try clear hb2)
           (try clear hk)
           (try clear hi)
           refine hK.out _ _ ⟨(bC BK102.out 0).trans rfl, (bC BK102.out 1).trans rfl, (bC BK102.out 2).trans rfl, (bC BK104.out 0).trans rfl, (bC BK104.out 1).trans rfl, (bC BK104.out 2).trans rfl, ((HB.out.cell (bL w _ hw107_0)).trans hw107_0), ((HB.out.cell (bL w _ hw107_1)).trans hw107_1), ((HB.out.cell (bL w _ hw107_2)).trans hw107_2)⟩ (fun hHeld => ?_); clear hK K; refine norm_ (a' := ?_) ?_ ?_; rotate_left
           · show Act.put _ (some 17) _ = _; simp only [Act.put, s1, s2, s3, i64_w, i32_w]; rfl
           refine pure_ (i := 4) (N := some 18) (v := ?_) (a' := ?_) q3_5 rfl rfl (any_of HT_.out (by kernel_rfl)) (fun _ _ _ h => h) (Or.inl ⟨by rfl, ?_⟩) ?_ ?_; rotate_left
           · intro w'; go_simp; with_reducible rfl
           rotate_left
           · simp only [Act.put, s1, s2, s3, i64_w, i32_w]; rfl
           refine pure_ (i := 5) (N := some 19) (v := ?_) (a' := ?_) q3_6 rfl rfl (any_of HT_.out (by kernel_rfl)) (fun _ _ _ h => h) (Or.inl ⟨by rfl, ?_⟩) ?_ ?_; rotate_left
           · intro w'; go_simp; with_reducible rfl
           rotate_left
           · simp only [Act.put, s1, s2, s3, i64_w, i32_w]; rfl
           refine pure_ (i := 6) (N := some 20) (v := ?_) (a' := ?_) q3_7 rfl rfl (any_of HT_.out (by kernel_rfl)) (fun _ _ _ h => h) (Or.inl ⟨by rfl, ?_⟩) ?_ ?_; rotate_left
           · intro w'; go_simp; with_reducible rfl
           rotate_left
           · simp only [Act.put, s1, s2, s3, i64_w, i32_w]; rfl
           refine take_ (i := 7) (N := some 21) (v := ?_) (a' := ?_) q3_8 rfl rfl (take_ofW HT_.out HW_.out (by kernel_rfl)) (fun _ _ _ h => h) (Or.inl ⟨by rfl, ?_⟩) hHeld ?_ ?_; rotate_left
           · rintro w' ⟨s0, s1, s2, s3, s4, s5, s6, s7, s8⟩; go_simp; with_reducible rfl
           rotate_left
           · simp only [Act.put, s1, s2, s3, i64_w, i32_w]; rfl
           refine pure_ (i := 8) (N := some 22) (v := ?_) (a' := ?_) q3_9 rfl rfl (any_of HT_.out (by kernel_rfl)) (fun _ _ _ h => h) (Or.inl ⟨by rfl, ?_⟩) ?_ ?_; rotate_left
           · intro w'; go_simp; with_reducible rfl
           rotate_left
           · simp only [Act.put, s1, s2, s3, i64_w, i32_w]; rfl
           refine pure_ (i := 9) (N := some 23) (v := undef) (a' := ?_) q3_10 rfl rfl (any_of HT_.out (by kernel_rfl)) (fun _ _ _ h => h) (Or.inr ⟨by rfl, rfl⟩) ?_ ?_; rotate_left
           · simp only [Act.put, s1, s2, s3, i64_w, i32_w]; rfl
           refine pure_ (i := 10) (N := some 24) (v := undef) (a' := ?_) q3_11 rfl rfl (any_of HT_.out (by kernel_rfl)) (fun _ _ _ h => h) (Or.inr ⟨by rfl, rfl⟩) ?_ ?_; rotate_left
           · simp only [Act.put, s1, s2, s3, i64_w, i32_w]; rfl
           refine pure_ (i := 11) (N := some 25) (v := undef) (a' := ?_) q3_12 rfl rfl (any_of HT_.out (by kernel_rfl)) (fun _ _ _ h => h) (Or.inr ⟨by rfl, rfl⟩) ?_ ?_; rotate_left
           · simp only [Act.put, s1, s2, s3, i64_w, i32_w]; rfl
           refine pure_ (i := 12) (N := some 26) (v := ?_) (a' := ?_) q3_13 rfl rfl (any_of HT_.out (by kernel_rfl)) (fun _ _ _ h => h) (Or.inl ⟨by rfl, ?_⟩) ?_ ?_; rotate_left
           · intro w'; go_simp; with_reducible rfl
           rotate_left
           · simp only [Act.put, s1, s2, s3, i64_w, i32_w]; rfl
           refine pure_ (i := 13) (N := some 27) (v := ?_) (a' := ?_) q3_14 rfl rfl (any_of HT_.out (by kernel_rfl)) (fun _ _ _ h => h) (Or.inl ⟨by rfl, ?_⟩) ?_ ?_; rotate_left
           · intro w'; go_simp; with_reducible rfl
           rotate_left
           · simp only [Act.put, s1, s2, s3, i64_w, i32_w]; rfl
           refine pure_ (i := 14) (N := some 28) (v := ?_) (a' := ?_) q3_15 rfl rfl (any_of HT_.out (by kernel_rfl)) (fun _ _ _ h => h) (Or.inl ⟨by rfl, ?_⟩) ?_ ?_; rotate_left
           · intro w'; go_simp; with_reducible rfl
           rotate_left
           · simp only [Act.put, s1, s2, s3, i64_w, i32_w]; rfl
           refine pure_ (i := 15) (N := some 29) (v := ?_) (a' := ?_) q3_16 rfl rfl (any_of HT_.out (by kernel_rfl)) (fun _ _ _ h => h) (Or.inl ⟨by rfl, ?_⟩) ?_ ?_; rotate_left
           · intro w'; go_simp; with_reducible rfl
           rotate_left
           · simp only [Act.put, s1, s2, s3, i64_w, i32_w]; rfl
           refine pure_ (i := 16) (N := some 30) (v := ?_) (a' := ?_) q3_17 rfl rfl (any_of HT_.out (by kernel_rfl)) (fun _ _ _ h => h) (Or.inl ⟨by rfl, ?_⟩) ?_ ?_; rotate_left
           · intro w'; go_simp; with_reducible rfl
           rotate_left
           · simp only [Act.put, s1, s2, s3, i64_w, i32_w]; rfl
           refine pure_ (i := 17) (N := some 31) (v := ?_) (a' := ?_) q3_18 rfl rfl (any_of HT_.out (by kernel_rfl)) (fun _ _ _ h => h) (Or.inl ⟨by rfl, ?_⟩) ?_ ?_; rotate_left
           · intro w'; go_simp; with_reducible rfl
           rotate_left
           · simp only [Act.put, s1, s2, s3, i64_w, i32_w]; rfl
           refine pure_ (i := 18) (N := some 32) (v := ?_) (a' := ?_) q3_19 rfl rfl (any_of HT_.out (by kernel_rfl)) (fun _ _ _ h => h) (Or.inl ⟨by rfl, ?_⟩) ?_ ?_; rotate_left
           · intro w'; go_simp; with_reducible rfl
           rotate_left
           · simp only [Act.put, s1, s2, s3, i64_w, i32_w]; rfl
           refine pure_ (i := 19) (N := some 33) (v := ?_) (a' := ?_) q3_20 rfl rfl (any_of HT_.out (by kernel_rfl)) (fun _ _ _ h => h) (Or.inl ⟨by rfl, ?_⟩) ?_ ?_; rotate_left
           · intro w'; go_simp; with_reducible rfl
           rotate_left
           · simp only [Act.put, s1, s2, s3, i64_w, i32_w]; rfl
           refine pure_ (i := 20) (N := some 34) (v := ?_) (a' := ?_) q3_21 rfl rfl (any_of HT_.out (by kernel_rfl)) (fun _ _ _ h => h) (Or.inl ⟨by rfl, ?_⟩) ?_ ?_; rotate_left
           · intro w'; go_simp; with_reducible rfl
           rotate_left
           · simp only [Act.put, s1, s2, s3, i64_w, i32_w]; rfl
           refine pure_ (i := 21) (N := some 35) (v := ?_) (a' := ?_) q3_22 rfl rfl (any_of HT_.out (by kernel_rfl)) (fun _ _ _ h => h) (Or.inl ⟨by rfl, ?_⟩) ?_ ?_; rotate_left
           · intro w'; go_simp; with_reducible rfl
           rotate_left
           · simp only [Act.put, s1, s2, s3, i64_w, i32_w]; rfl
           refine pure_ (i := 22) (N := some 36) (v := ?_) (a' := ?_) q3_23 rfl rfl (any_of HT_.out (by kernel_rfl)) (fun _ _ _ h => h) (Or.inl ⟨by rfl, ?_⟩) ?_ ?_; rotate_left
           · intro w'; go_simp; with_reducible rfl
           rotate_left
           · simp only [Act.put, s1, s2, s3, i64_w, i32_w]; rfl
           refine pure_ (i := 24) (N := some 38) (v := ?_) (a' := ?_) q3_24 rfl rfl (any_of HT_.out (by kernel_rfl)) (fun _ _ _ h => h) (Or.inl ⟨by rfl, ?_⟩) ?_ ?_; rotate_left
           · intro w'; go_simp; with_reducible rfl
           rotate_left
           · simp only [Act.put, s1, s2, s3, i64_w, i32_w]; rfl
           refine take_ (i := 23) (N := some 37) (v := ?_) (a' := ?_) q3_25 rfl rfl (take_ofW HT_.out HW_.out (by kernel_rfl)) (fun _ _ _ h => h) (Or.inl ⟨by rfl, ?_⟩) hHeld ?_ ?_; rotate_left
           · rintro w' ⟨s0, s1, s2, s3, s4, s5, s6, s7, s8⟩; go_simp; with_reducible rfl
           rotate_left
           · simp only [Act.put, s1, s2, s3, i64_w, i32_w]; rfl
           refine take_ (i := 25) (N := some 39) (v := ?_) (a' := ?_) q3_26 rfl rfl (take_ofW HT_.out HW_.out (by kernel_rfl)) (fun _ _ _ h => h) (Or.inl ⟨by rfl, ?_⟩) hHeld ?_ ?_; rotate_left
           · rintro w' ⟨s0, s1, s2, s3, s4, s5, s6, s7, s8⟩; go_simp; with_reducible rfl
           rotate_left
           · simp only [Act.put, s1, s2, s3, i64_w, i32_w]; rfl
           refine pure_ (i := 26) (N := some 40) (v := ?_) (a' := ?_) q3_27 rfl rfl (any_of HT_.out (by kernel_rfl)) (fun _ _ _ h => h) (Or.inl ⟨by rfl, ?_⟩) ?_ ?_; rotate_left
           · intro w'; go_simp; with_reducible rfl
           rotate_left
           · simp only [Act.put, s1, s2, s3, i64_w, i32_w]; rfl
           refine pure_ (i := 27) (N := some 41) (v := ?_) (a' := ?_) q3_28 rfl rfl (any_of HT_.out (by kernel_rfl)) (fun _ _ _ h => h) (Or.inl ⟨by rfl, ?_⟩) ?_ ?_; rotate_left
           · intro w'; go_simp; with_reducible rfl
           rotate_left
           · simp only [Act.put, s1, s2, s3, i64_w, i32_w]; rfl
           refine pure_ (i := 28) (N := some 42) (v := ?_) (a' := ?_) q3_29 rfl rfl (any_of HT_.out (by kernel_rfl)) (fun _ _ _ h => h) (Or.inl ⟨by rfl, ?_⟩) ?_ ?_; rotate_left
           · intro w'; go_simp; with_reducible rfl
           rotate_left
           · simp only [Act.put, s1, s2, s3, i64_w, i32_w]; rfl
           refine done_ (done_of HT_.out (by kernel_rfl)) ?_; try go_wp2
           go_roundg k1
           case measure => have := HK1.out; omega
           case rel => exact ⟨(wrap64 (x9_1 + 1)), (by first | rfl | (simp; done) | (simp [*]; done)), H', ⟨by have := HK1.out; omega⟩, ⟨by (with_reducible repeat (first | refine bN ?_ _ | refine bD ?_ | refine bA ?_ _)); exact BK102.out⟩, ⟨by repeat (first | (with_reducible first | exact HB.out | apply wA | apply wN | apply wD | refine wS ?_ GE102.out | refine wS ?_ GE104.out) | exact HB.out)⟩⟩
          rw [if_neg c45] at H; have c45b0 : (Op.bytesLess (((rd_T114 l1 (ji42)).f0).toList) (((rd_T114 l1 x9_1).f0).toList)) = false := by simpa using c45
          clear c45; obtain rfl := Option.some.inj H; have p103 : 0 ≤ (x9_1 : Int) := oT (by first | (with_reducible assumption) | assumption); have q103 : x9_1 < (l1.length : Int) := oT (by first | (with_reducible assumption) | assumption); obtain ⟨ad103, e103, hx103_0, hx103_1, hx103_2⟩ := at_T114b HR1.out HB.out x9_1 p103 q103; (try rw [← Nbq9.out] at hx103_2)
          cases e103; replace p103 := eq_true p103; replace q103 := eq_true q103; try go_wp2_with (first | ((with_reducible refine gate_dst (N := 6) rfl ?_); refine box_event ?hg (N := 6) ?hd (cs := #[.string (⟨#[]⟩ : ByteArray), .string (⟨#[]⟩ : ByteArray), .bool false]) (t := 114) ?hr ?_; (case hd => rfl); (case hg => rfl); (case hr => first | (go_simp; done) | (go_simp; rfl)); intro gb104 hg w52 hbox hb; have n0_ := K0 (bB (g := gb102) (o := .cells #[.string a0_0, .string a0_1, .bool a0_2] 32 (0, 0)) (by (with_reducible repeat (first | refine bN ?_ _ | refine bD ?_ | refine bA ?_ _)); exact BK102.out) hb); have n1_ := K0 (below_step (by repeat (first | (with_reducible first | exact HB.out | apply wA | apply wN | apply wD | refine wS ?_ GE102.out) | exact HB.out)) hb); have n2_ := K0 (hbox); have n3_ := K0 ((by rw [hg]; exact (below_size (by repeat (first | (with_reducible first | exact HB.out | apply wA | apply wN | apply wD | refine wS ?_ GE102.out) | exact HB.out))) : w.heap.size ≤ gb104)); have n4_ := K0 ((by rw [hg]; exact (below_size (by repeat (first | (with_reducible first | exact HB.out | apply wA | apply wN | apply wD | refine wS ?_ GE102.out) | exact HB.out))) : w.heap.size ≤ gb104)); have n5_ := K0 ((by rw [hg]; exact Nat.ne_of_lt (blk_lt (g := gb102) (o := .cells #[.string a0_0, .string a0_1, .bool a0_2] 32 (0, 0)) (by (with_reducible repeat (first | refine bN ?_ _ | refine bD ?_ | refine bA ?_ _)); exact BK102.out)) : gb102 ≠ gb104)); have n6_ := K0 ((by rw [hg]; exact Nat.ne_of_gt (blk_lt (g := gb102) (o := .cells #[.string a0_0, .string a0_1, .bool a0_2] 32 (0, 0)) (by (with_reducible repeat (first | refine bN ?_ _ | refine bD ?_ | refine bA ?_ _)); exact BK102.out)) : gb104 ≠ gb102)); clear BK102; clear HB; have BK102 := n0_; have HB := n1_; have BK104 := n2_; have GW104 := n3_; have GE104 := n4_; have NB102_104 := n5_; have NB104_102 := n6_; clear n0_ n1_ n2_ n3_ n4_ n5_ n6_; clear hb hbox hg; have hnb53 := NB104_102.out; have hnc53 := NB102_104.out; obtain ⟨hcz54_0, hcz54_1, hcz54_2⟩ := cellS3 BK104.out; obtain ⟨hfz54_0, hfz54_1, hfz54_2⟩ := frozS3 BK104.out))
          have n0_ : Aside0 ((((w52.setCell ⟨gb104, 0, none⟩ (.string ((rd_T114 l1 x9_1).f0))).setCell ⟨gb104, 1, none⟩ (.string ((rd_T114 l1 x9_1).f1))).setCell ⟨gb104, 2, none⟩ (.bool false)).heap[gb102]? = some (.cells #[.string a0_0, .string a0_1, .bool a0_2] 32 (0, 0))) := ⟨by (with_reducible repeat (first | refine bN ?_ _ | refine bD ?_ | refine bA ?_ _)); refine blk_far ?_ NB102_104.out _; (with_reducible repeat (first | refine bN ?_ _ | refine bD ?_ | refine bA ?_ _)); refine blk_far ?_ NB102_104.out _; (with_reducible repeat (first | refine bN ?_ _ | refine bD ?_ | refine bA ?_ _)); refine blk_far ?_ NB102_104.out _; (with_reducible repeat (first | refine bN ?_ _ | refine bD ?_ | refine bA ?_ _)); exact BK102.out⟩; have n1_ : Aside0 ((((w52.setCell ⟨gb104, 0, none⟩ (.string ((rd_T114 l1 x9_1).f0))).setCell ⟨gb104, 1, none⟩ (.string ((rd_T114 l1 x9_1).f1))).setCell ⟨gb104, 2, none⟩ (.bool false)).heap[gb104]? = some (.cells #[.string ((rd_T114 l1 x9_1).f0), .string ((rd_T114 l1 x9_1).f1), .bool false] 114 (0, 0))) := ⟨by (with_reducible repeat (first | refine bN ?_ _ | refine bD ?_ | refine bA ?_ _)); apply blkS3; (with_reducible repeat (first | refine bN ?_ _ | refine bD ?_ | refine bA ?_ _)); exact BK104.out⟩; have n2_ : Aside0 (Below w.heap.size w (((w52.setCell ⟨gb104, 0, none⟩ (.string ((rd_T114 l1 x9_1).f0))).setCell ⟨gb104, 1, none⟩ (.string ((rd_T114 l1 x9_1).f1))).setCell ⟨gb104, 2, none⟩ (.bool false))) := ⟨by repeat (first | (with_reducible first | exact HB.out | apply wA | apply wN | apply wD | refine wS ?_ GE102.out | refine wS ?_ GE104.out) | exact HB.out)⟩; (try clear BK102)
          (try clear BK104)
          (try clear HB)
          generalize (((w52.setCell ⟨gb104, 0, none⟩ (.string ((rd_T114 l1 x9_1).f0))).setCell ⟨gb104, 1, none⟩ (.string ((rd_T114 l1 x9_1).f1))).setCell ⟨gb104, 2, none⟩ (.bool false)) = w55 at n0_ n1_ n2_ ⊢; have BK102 := n0_; have BK104 := n1_; have HB := n2_; clear n0_ n1_ n2_; have n0_ := K0 (bD BK102.out); have n1_ := K0 (bD BK104.out); have n2_ := K0 (wD HB.out); clear BK102 BK104 HB; have BK102 := n0_; have BK104 := n1_; have HB := n2_; clear n0_ n1_ n2_; have p107 : 0 ≤ ((ji42) : Int) := oT (by first | (with_reducible assumption) | assumption); have q107 : (ji42) < (l1.length : Int) := oT (by first | (with_reducible assumption) | assumption); obtain ⟨ad107, e107, hx107_0, hx107_1, hx107_2⟩ := at_T114 HR1.out (ji42) p107 q107; have hw107_2 := hx107_2; have hw107_1 := hx107_1; have hw107_0 := hx107_0; (try rw [← Nbq9.out] at hx107_2)
          obtain rfl : ad103 = ad107 := (by injection e107); replace hx107_0 := (HB.out.cell (bL w _ hx107_0)).trans hx107_0; replace hx107_1 := (HB.out.cell (bL w _ hx107_1)).trans hx107_1; replace hx107_2 := (HB.out.cell (bL w _ hx107_2)).trans hx107_2; replace p107 := eq_true p107; replace q107 := eq_true q107; refine start_ (n := 29) (S := fun w' => w'.cell? ⟨gb102, 0, none⟩ = some (.string a0_0) ∧ w'.cell? ⟨gb102, 1, none⟩ = some (.string a0_1) ∧ w'.cell? ⟨gb102, 2, none⟩ = some (.bool a0_2) ∧ w'.cell? ⟨gb104, 0, none⟩ = some (.string ((rd_T114 l1 x9_1).f0)) ∧ w'.cell? ⟨gb104, 1, none⟩ = some (.string ((rd_T114 l1 x9_1).f1)) ∧ w'.cell? ⟨gb104, 2, none⟩ = some (.bool false) ∧ w'.cell? (ad103.add (((ji42)).toNat * 3)) = some (.string ((rd_T114 l1 (ji42)).f0)) ∧ w'.cell? ⟨(ad103.add (((ji42)).toNat * 3)).block, (ad103.add (((ji42)).toNat * 3)).off + 1, none⟩ = some (.string ((rd_T114 l1 (ji42)).f1)) ∧ w'.cell? ⟨(ad103.add (((ji42)).toNat * 3)).block, (ad103.add (((ji42)).toNat * 3)).off + 2, none⟩ = some (.bool ((rd_T114 l1 (ji42)).f2))) (ds := []) q3_0 (by kernel_rfl) rfl rfl ⟨(bC BK102.out 0).trans rfl, (bC BK102.out 1).trans rfl, (bC BK102.out 2).trans rfl, (bC BK104.out 0).trans rfl, (bC BK104.out 1).trans rfl, (bC BK104.out 2).trans rfl, ((HB.out.cell (bL w _ hw107_0)).trans hw107_0), ((HB.out.cell (bL w _ hw107_1)).trans hw107_1), ((HB.out.cell (bL w _ hw107_2)).trans hw107_2)⟩ (fun hHeld => ?_); refine with_tabW rev_rises.tab4 rev_rises.bits4 (fun HT_ HW_ => ?_)
          generalize w55.drew = w56 at BK102 BK104 HB hx107_0 hx107_1 hx107_2 hHeld ⊢; refine pure_ (i := 1) (N := some 15) (v := ?_) (a' := ?_) q3_1 rfl rfl (any_of HT_.out (by kernel_rfl)) (fun _ _ _ h => h) (Or.inl ⟨by rfl, ?_⟩) ?_ ?_; rotate_left
          · intro w'; go_simp; with_reducible rfl
          rotate_left
          · simp only [Act.put, s1, s2, s3, i64_w, i32_w]; rfl
          refine take_ (i := 0) (N := some 14) (v := ?_) (a' := ?_) q3_2 rfl rfl (take_ofW HT_.out HW_.out (by kernel_rfl)) (fun _ _ _ h => h) (Or.inl ⟨by rfl, ?_⟩) hHeld ?_ ?_; rotate_left
          · rintro w' ⟨s0, s1, s2, s3, s4, s5, s6, s7, s8⟩; go_simp; with_reducible rfl
          rotate_left
          · simp only [Act.put, s1, s2, s3, i64_w, i32_w]; rfl
          refine take_ (i := 2) (N := some 16) (v := ?_) (a' := ?_) q3_3 rfl rfl (take_ofW HT_.out HW_.out (by kernel_rfl)) (fun _ _ _ h => h) (Or.inl ⟨by rfl, ?_⟩) hHeld ?_ ?_; rotate_left
          · rintro w' ⟨s0, s1, s2, s3, s4, s5, s6, s7, s8⟩; go_simp; with_reducible rfl
          rotate_left
          · simp only [Act.put, s1, s2, s3, i64_w, i32_w]; rfl
          refine one_ (i := 3) (N := some 17) q3_4 rfl rfl (one_of HT_.out (by kernel_rfl)) (by decide) (fun K hK => ?_); refine goes_ Try.func67 (by kernel_rfl) rfl #[.agg #[.string a0_0, .string a0_1, .bool a0_2], .string ((rd_T114 l1 x9_1).f0)] (by rfl) rfl rfl (by (try simp only [List.map_toArray, List.map_cons, List.map_nil]); first | done | rfl | (simp only [lD, lT]; rfl)) ?_; with_reducible refine (key_Has.calls a0_0 a0_1 a0_2 ((rd_T114 l1 x9_1).f0) true _ A7.out).mono ?_
          rintro e w57 ⟨rfl, hb⟩; refine ⟨_, rfl, ?_⟩; have n0_ := K0 (bB (g := gb102) (o := .cells #[.string a0_0, .string a0_1, .bool a0_2] 32 (0, 0)) (by (with_reducible repeat (first | refine bN ?_ _ | refine bD ?_ | refine bA ?_ _)); exact BK102.out) hb); have n1_ := K0 (bB (g := gb104) (o := .cells #[.string ((rd_T114 l1 x9_1).f0), .string ((rd_T114 l1 x9_1).f1), .bool false] 114 (0, 0)) (by (with_reducible repeat (first | refine bN ?_ _ | refine bD ?_ | refine bA ?_ _)); exact BK104.out) hb); have n2_ := K0 (below_step (by repeat (first | (with_reducible first | exact HB.out | apply wA | apply wN | apply wD | refine wS ?_ GE102.out | refine wS ?_ GE104.out) | exact HB.out)) hb); clear BK102 BK104 HB; have BK102 := n0_; have BK104 := n1_; have HB := n2_; clear n0_ n1_ n2_; (try clear hb)
          (try clear hb2)
          (try clear hk)
          (try clear hi)
          refine hK.out _ _ ⟨(bC BK102.out 0).trans rfl, (bC BK102.out 1).trans rfl, (bC BK102.out 2).trans rfl, (bC BK104.out 0).trans rfl, (bC BK104.out 1).trans rfl, (bC BK104.out 2).trans rfl, ((HB.out.cell (bL w _ hw107_0)).trans hw107_0), ((HB.out.cell (bL w _ hw107_1)).trans hw107_1), ((HB.out.cell (bL w _ hw107_2)).trans hw107_2)⟩ (fun hHeld => ?_); clear hK K; refine norm_ (a' := ?_) ?_ ?_; rotate_left
          · show Act.put _ (some 17) _ = _; simp only [Act.put, s1, s2, s3, i64_w, i32_w]; rfl
          refine pure_ (i := 4) (N := some 18) (v := ?_) (a' := ?_) q3_5 rfl rfl (any_of HT_.out (by kernel_rfl)) (fun _ _ _ h => h) (Or.inl ⟨by rfl, ?_⟩) ?_ ?_; rotate_left
          · intro w'; go_simp; with_reducible rfl
          rotate_left
          · simp only [Act.put, s1, s2, s3, i64_w, i32_w]; rfl
          refine pure_ (i := 5) (N := some 19) (v := ?_) (a' := ?_) q3_6 rfl rfl (any_of HT_.out (by kernel_rfl)) (fun _ _ _ h => h) (Or.inl ⟨by rfl, ?_⟩) ?_ ?_; rotate_left
          · intro w'; go_simp; with_reducible rfl
          rotate_left
          · simp only [Act.put, s1, s2, s3, i64_w, i32_w]; rfl
          refine pure_ (i := 6) (N := some 20) (v := ?_) (a' := ?_) q3_7 rfl rfl (any_of HT_.out (by kernel_rfl)) (fun _ _ _ h => h) (Or.inl ⟨by rfl, ?_⟩) ?_ ?_; rotate_left
          · intro w'; go_simp; with_reducible rfl
          rotate_left
          · simp only [Act.put, s1, s2, s3, i64_w, i32_w]; rfl
          refine take_ (i := 7) (N := some 21) (v := ?_) (a' := ?_) q3_8 rfl rfl (take_ofW HT_.out HW_.out (by kernel_rfl)) (fun _ _ _ h => h) (Or.inl ⟨by rfl, ?_⟩) hHeld ?_ ?_; rotate_left
          · rintro w' ⟨s0, s1, s2, s3, s4, s5, s6, s7, s8⟩; go_simp; with_reducible rfl
          rotate_left
          · simp only [Act.put, s1, s2, s3, i64_w, i32_w]; rfl
          refine pure_ (i := 8) (N := some 22) (v := ?_) (a' := ?_) q3_9 rfl rfl (any_of HT_.out (by kernel_rfl)) (fun _ _ _ h => h) (Or.inl ⟨by rfl, ?_⟩) ?_ ?_; rotate_left
          · intro w'; go_simp; with_reducible rfl
          rotate_left
          · simp only [Act.put, s1, s2, s3, i64_w, i32_w]; rfl
          refine pure_ (i := 9) (N := some 23) (v := undef) (a' := ?_) q3_10 rfl rfl (any_of HT_.out (by kernel_rfl)) (fun _ _ _ h => h) (Or.inr ⟨by rfl, rfl⟩) ?_ ?_; rotate_left
          · simp only [Act.put, s1, s2, s3, i64_w, i32_w]; rfl
          refine pure_ (i := 10) (N := some 24) (v := undef) (a' := ?_) q3_11 rfl rfl (any_of HT_.out (by kernel_rfl)) (fun _ _ _ h => h) (Or.inr ⟨by rfl, rfl⟩) ?_ ?_; rotate_left
          · simp only [Act.put, s1, s2, s3, i64_w, i32_w]; rfl
          refine pure_ (i := 11) (N := some 25) (v := undef) (a' := ?_) q3_12 rfl rfl (any_of HT_.out (by kernel_rfl)) (fun _ _ _ h => h) (Or.inr ⟨by rfl, rfl⟩) ?_ ?_; rotate_left
          · simp only [Act.put, s1, s2, s3, i64_w, i32_w]; rfl
          refine pure_ (i := 12) (N := some 26) (v := ?_) (a' := ?_) q3_13 rfl rfl (any_of HT_.out (by kernel_rfl)) (fun _ _ _ h => h) (Or.inl ⟨by rfl, ?_⟩) ?_ ?_; rotate_left
          · intro w'; go_simp; with_reducible rfl
          rotate_left
          · simp only [Act.put, s1, s2, s3, i64_w, i32_w]; rfl
          refine pure_ (i := 13) (N := some 27) (v := ?_) (a' := ?_) q3_14 rfl rfl (any_of HT_.out (by kernel_rfl)) (fun _ _ _ h => h) (Or.inl ⟨by rfl, ?_⟩) ?_ ?_; rotate_left
          · intro w'; go_simp; with_reducible rfl
          rotate_left
          · simp only [Act.put, s1, s2, s3, i64_w, i32_w]; rfl
          refine pure_ (i := 14) (N := some 28) (v := ?_) (a' := ?_) q3_15 rfl rfl (any_of HT_.out (by kernel_rfl)) (fun _ _ _ h => h) (Or.inl ⟨by rfl, ?_⟩) ?_ ?_; rotate_left
          · intro w'; go_simp; with_reducible rfl
          rotate_left
          · simp only [Act.put, s1, s2, s3, i64_w, i32_w]; rfl
          refine pure_ (i := 15) (N := some 29) (v := ?_) (a' := ?_) q3_16 rfl rfl (any_of HT_.out (by kernel_rfl)) (fun _ _ _ h => h) (Or.inl ⟨by rfl, ?_⟩) ?_ ?_; rotate_left
          · intro w'; go_simp; with_reducible rfl
          rotate_left
          · simp only [Act.put, s1, s2, s3, i64_w, i32_w]; rfl
          refine pure_ (i := 16) (N := some 30) (v := ?_) (a' := ?_) q3_17 rfl rfl (any_of HT_.out (by kernel_rfl)) (fun _ _ _ h => h) (Or.inl ⟨by rfl, ?_⟩) ?_ ?_; rotate_left
          · intro w'; go_simp; with_reducible rfl
          rotate_left
          · simp only [Act.put, s1, s2, s3, i64_w, i32_w]; rfl
          refine pure_ (i := 17) (N := some 31) (v := ?_) (a' := ?_) q3_18 rfl rfl (any_of HT_.out (by kernel_rfl)) (fun _ _ _ h => h) (Or.inl ⟨by rfl, ?_⟩) ?_ ?_; rotate_left
          · intro w'; go_simp; with_reducible rfl
          rotate_left
          · simp only [Act.put, s1, s2, s3, i64_w, i32_w]; rfl
          refine pure_ (i := 18) (N := some 32) (v := ?_) (a' := ?_) q3_19 rfl rfl (any_of HT_.out (by kernel_rfl)) (fun _ _ _ h => h) (Or.inl ⟨by rfl, ?_⟩) ?_ ?_; rotate_left
          · intro w'; go_simp; with_reducible rfl
          rotate_left
          · simp only [Act.put, s1, s2, s3, i64_w, i32_w]; rfl
          refine pure_ (i := 19) (N := some 33) (v := ?_) (a' := ?_) q3_20 rfl rfl (any_of HT_.out (by kernel_rfl)) (fun _ _ _ h => h) (Or.inl ⟨by rfl, ?_⟩) ?_ ?_; rotate_left
          · intro w'; go_simp; with_reducible rfl
          rotate_left
          · simp only [Act.put, s1, s2, s3, i64_w, i32_w]; rfl
          refine pure_ (i := 20) (N := some 34) (v := ?_) (a' := ?_) q3_21 rfl rfl (any_of HT_.out (by kernel_rfl)) (fun _ _ _ h => h) (Or.inl ⟨by rfl, ?_⟩) ?_ ?_; rotate_left
          · intro w'; go_simp; with_reducible rfl
          rotate_left
          · simp only [Act.put, s1, s2, s3, i64_w, i32_w]; rfl
          refine pure_ (i := 21) (N := some 35) (v := ?_) (a' := ?_) q3_22 rfl rfl (any_of HT_.out (by kernel_rfl)) (fun _ _ _ h => h) (Or.inl ⟨by rfl, ?_⟩) ?_ ?_; rotate_left
          · intro w'; go_simp; with_reducible rfl
          rotate_left
          · simp only [Act.put, s1, s2, s3, i64_w, i32_w]; rfl
          refine pure_ (i := 22) (N := some 36) (v := ?_) (a' := ?_) q3_23 rfl rfl (any_of HT_.out (by kernel_rfl)) (fun _ _ _ h => h) (Or.inl ⟨by rfl, ?_⟩) ?_ ?_; rotate_left
          · intro w'; go_simp; with_reducible rfl
          rotate_left
          · simp only [Act.put, s1, s2, s3, i64_w, i32_w]; rfl
          refine pure_ (i := 24) (N := some 38) (v := ?_) (a' := ?_) q3_24 rfl rfl (any_of HT_.out (by kernel_rfl)) (fun _ _ _ h => h) (Or.inl ⟨by rfl, ?_⟩) ?_ ?_; rotate_left
          · intro w'; go_simp; with_reducible rfl
          rotate_left
          · simp only [Act.put, s1, s2, s3, i64_w, i32_w]; rfl
          refine take_ (i := 23) (N := some 37) (v := ?_) (a' := ?_) q3_25 rfl rfl (take_ofW HT_.out HW_.out (by kernel_rfl)) (fun _ _ _ h => h) (Or.inl ⟨by rfl, ?_⟩) hHeld ?_ ?_; rotate_left
          · rintro w' ⟨s0, s1, s2, s3, s4, s5, s6, s7, s8⟩; go_simp; with_reducible rfl
          rotate_left
          · simp only [Act.put, s1, s2, s3, i64_w, i32_w]; rfl
          refine take_ (i := 25) (N := some 39) (v := ?_) (a' := ?_) q3_26 rfl rfl (take_ofW HT_.out HW_.out (by kernel_rfl)) (fun _ _ _ h => h) (Or.inl ⟨by rfl, ?_⟩) hHeld ?_ ?_; rotate_left
          · rintro w' ⟨s0, s1, s2, s3, s4, s5, s6, s7, s8⟩; go_simp; with_reducible rfl
          rotate_left
          · simp only [Act.put, s1, s2, s3, i64_w, i32_w]; rfl
          refine pure_ (i := 26) (N := some 40) (v := ?_) (a' := ?_) q3_27 rfl rfl (any_of HT_.out (by kernel_rfl)) (fun _ _ _ h => h) (Or.inl ⟨by rfl, ?_⟩) ?_ ?_; rotate_left
          · intro w'; go_simp; with_reducible rfl
          rotate_left
          · simp only [Act.put, s1, s2, s3, i64_w, i32_w]; rfl
          refine pure_ (i := 27) (N := some 41) (v := ?_) (a' := ?_) q3_28 rfl rfl (any_of HT_.out (by kernel_rfl)) (fun _ _ _ h => h) (Or.inl ⟨by rfl, ?_⟩) ?_ ?_; rotate_left
          · intro w'; go_simp; with_reducible rfl
          rotate_left
          · simp only [Act.put, s1, s2, s3, i64_w, i32_w]; rfl
          refine pure_ (i := 28) (N := some 42) (v := ?_) (a' := ?_) q3_29 rfl rfl (any_of HT_.out (by kernel_rfl)) (fun _ _ _ h => h) (Or.inl ⟨by rfl, ?_⟩) ?_ ?_; rotate_left
          · intro w'; go_simp; with_reducible rfl
          rotate_left
          · simp only [Act.put, s1, s2, s3, i64_w, i32_w]; rfl
          refine done_ (done_of HT_.out (by kernel_rfl)) ?_; try go_wp2
          go_ret; exact ⟨by first | rfl | (simp [errW_none, errW_some] <;> rfl) | (simp only [← hji42]; first | rfl | (simp [errW_none, errW_some] <;> rfl)) | (simp [*, errW_none, errW_some] <;> rfl), by repeat (first | (with_reducible first | exact HB.out | apply wA | apply wN | apply wD | refine wS ?_ GE102.out | refine wS ?_ GE104.out) | exact HB.out)⟩
         rw [if_neg c44] at H; exact absurd H (by simp)
        rw [if_neg c43] at H; exact absurd H (by simp)
       rw [if_neg c41] at H; have c41b0 : decide (0 < x9_1) = false := dF c41; clear c41; have H' := K0 H; clear H; have p103 : 0 ≤ (x9_1 : Int) := oT (by first | (with_reducible assumption) | assumption); have q103 : x9_1 < (l1.length : Int) := oT (by first | (with_reducible assumption) | assumption); obtain ⟨ad103, e103, hx103_0, hx103_1, hx103_2⟩ := at_T114b HR1.out HB.out x9_1 p103 q103; (try rw [← Nbq9.out] at hx103_2)
       cases e103; replace p103 := eq_true p103; replace q103 := eq_true q103; try go_wp2_with (first | ((with_reducible refine gate_dst (N := 6) rfl ?_); refine box_event ?hg (N := 6) ?hd (cs := #[.string (⟨#[]⟩ : ByteArray), .string (⟨#[]⟩ : ByteArray), .bool false]) (t := 114) ?hr ?_; (case hd => rfl); (case hg => rfl); (case hr => first | (go_simp; done) | (go_simp; rfl)); intro gb104 hg w58 hbox hb; have n0_ := K0 (bB (g := gb102) (o := .cells #[.string a0_0, .string a0_1, .bool a0_2] 32 (0, 0)) (by (with_reducible repeat (first | refine bN ?_ _ | refine bD ?_ | refine bA ?_ _)); exact BK102.out) hb); have n1_ := K0 (below_step (by repeat (first | (with_reducible first | exact HB.out | apply wA | apply wN | apply wD | refine wS ?_ GE102.out) | exact HB.out)) hb); have n2_ := K0 (hbox); have n3_ := K0 ((by rw [hg]; exact (below_size (by repeat (first | (with_reducible first | exact HB.out | apply wA | apply wN | apply wD | refine wS ?_ GE102.out) | exact HB.out))) : w.heap.size ≤ gb104)); have n4_ := K0 ((by rw [hg]; exact (below_size (by repeat (first | (with_reducible first | exact HB.out | apply wA | apply wN | apply wD | refine wS ?_ GE102.out) | exact HB.out))) : w.heap.size ≤ gb104)); have n5_ := K0 ((by rw [hg]; exact Nat.ne_of_lt (blk_lt (g := gb102) (o := .cells #[.string a0_0, .string a0_1, .bool a0_2] 32 (0, 0)) (by (with_reducible repeat (first | refine bN ?_ _ | refine bD ?_ | refine bA ?_ _)); exact BK102.out)) : gb102 ≠ gb104)); have n6_ := K0 ((by rw [hg]; exact Nat.ne_of_gt (blk_lt (g := gb102) (o := .cells #[.string a0_0, .string a0_1, .bool a0_2] 32 (0, 0)) (by (with_reducible repeat (first | refine bN ?_ _ | refine bD ?_ | refine bA ?_ _)); exact BK102.out)) : gb104 ≠ gb102)); clear BK102; clear HB; have BK102 := n0_; have HB := n1_; have BK104 := n2_; have GW104 := n3_; have GE104 := n4_; have NB102_104 := n5_; have NB104_102 := n6_; clear n0_ n1_ n2_ n3_ n4_ n5_ n6_; clear hb hbox hg; have hnb59 := NB104_102.out; have hnc59 := NB102_104.out; obtain ⟨hcz60_0, hcz60_1, hcz60_2⟩ := cellS3 BK104.out; obtain ⟨hfz60_0, hfz60_1, hfz60_2⟩ := frozS3 BK104.out))
       have n0_ : Aside0 ((((w58.setCell ⟨gb104, 0, none⟩ (.string ((rd_T114 l1 x9_1).f0))).setCell ⟨gb104, 1, none⟩ (.string ((rd_T114 l1 x9_1).f1))).setCell ⟨gb104, 2, none⟩ (.bool false)).heap[gb102]? = some (.cells #[.string a0_0, .string a0_1, .bool a0_2] 32 (0, 0))) := ⟨by (with_reducible repeat (first | refine bN ?_ _ | refine bD ?_ | refine bA ?_ _)); refine blk_far ?_ NB102_104.out _; (with_reducible repeat (first | refine bN ?_ _ | refine bD ?_ | refine bA ?_ _)); refine blk_far ?_ NB102_104.out _; (with_reducible repeat (first | refine bN ?_ _ | refine bD ?_ | refine bA ?_ _)); refine blk_far ?_ NB102_104.out _; (with_reducible repeat (first | refine bN ?_ _ | refine bD ?_ | refine bA ?_ _)); exact BK102.out⟩; have n1_ : Aside0 ((((w58.setCell ⟨gb104, 0, none⟩ (.string ((rd_T114 l1 x9_1).f0))).setCell ⟨gb104, 1, none⟩ (.string ((rd_T114 l1 x9_1).f1))).setCell ⟨gb104, 2, none⟩ (.bool false)).heap[gb104]? = some (.cells #[.string ((rd_T114 l1 x9_1).f0), .string ((rd_T114 l1 x9_1).f1), .bool false] 114 (0, 0))) := ⟨by (with_reducible repeat (first | refine bN ?_ _ | refine bD ?_ | refine bA ?_ _)); apply blkS3; (with_reducible repeat (first | refine bN ?_ _ | refine bD ?_ | refine bA ?_ _)); exact BK104.out⟩; have n2_ : Aside0 (Below w.heap.size w (((w58.setCell ⟨gb104, 0, none⟩ (.string ((rd_T114 l1 x9_1).f0))).setCell ⟨gb104, 1, none⟩ (.string ((rd_T114 l1 x9_1).f1))).setCell ⟨gb104, 2, none⟩ (.bool false))) := ⟨by repeat (first | (with_reducible first | exact HB.out | apply wA | apply wN | apply wD | refine wS ?_ GE102.out | refine wS ?_ GE104.out) | exact HB.out)⟩; (try clear BK102)
       (try clear BK104)
       (try clear HB)
       generalize (((w58.setCell ⟨gb104, 0, none⟩ (.string ((rd_T114 l1 x9_1).f0))).setCell ⟨gb104, 1, none⟩ (.string ((rd_T114 l1 x9_1).f1))).setCell ⟨gb104, 2, none⟩ (.bool false)) = w61 at n0_ n1_ n2_ ⊢; have BK102 := n0_; have BK104 := n1_; have HB := n2_; clear n0_ n1_ n2_; have n0_ := K0 (bD BK102.out); have n1_ := K0 (bD BK104.out); have n2_ := K0 (wD HB.out); clear BK102 BK104 HB; have BK102 := n0_; have BK104 := n1_; have HB := n2_; clear n0_ n1_ n2_; refine start_ (n := 29) (S := fun w' => w'.cell? ⟨gb102, 0, none⟩ = some (.string a0_0) ∧ w'.cell? ⟨gb102, 1, none⟩ = some (.string a0_1) ∧ w'.cell? ⟨gb102, 2, none⟩ = some (.bool a0_2) ∧ w'.cell? ⟨gb104, 0, none⟩ = some (.string ((rd_T114 l1 x9_1).f0)) ∧ w'.cell? ⟨gb104, 1, none⟩ = some (.string ((rd_T114 l1 x9_1).f1)) ∧ w'.cell? ⟨gb104, 2, none⟩ = some (.bool false)) (ds := []) q3_0 (by kernel_rfl) rfl rfl ⟨(bC BK102.out 0).trans rfl, (bC BK102.out 1).trans rfl, (bC BK102.out 2).trans rfl, (bC BK104.out 0).trans rfl, (bC BK104.out 1).trans rfl, (bC BK104.out 2).trans rfl⟩ (fun hHeld => ?_); refine with_tabW rev_rises.tab4 rev_rises.bits4 (fun HT_ HW_ => ?_)
       generalize w61.drew = w62 at BK102 BK104 HB hHeld ⊢; refine pure_ (i := 1) (N := some 15) (v := ?_) (a' := ?_) q3_1 rfl rfl (any_of HT_.out (by kernel_rfl)) (fun _ _ _ h => h) (Or.inl ⟨by rfl, ?_⟩) ?_ ?_; rotate_left
       · intro w'; go_simp; with_reducible rfl
       rotate_left
       · simp only [Act.put, s1, s2, s3, i64_w, i32_w]; rfl
       refine take_ (i := 0) (N := some 14) (v := ?_) (a' := ?_) q3_2 rfl rfl (take_ofW HT_.out HW_.out (by kernel_rfl)) (fun _ _ _ h => h) (Or.inl ⟨by rfl, ?_⟩) hHeld ?_ ?_; rotate_left
       · rintro w' ⟨s0, s1, s2, s3, s4, s5⟩; go_simp; with_reducible rfl
       rotate_left
       · simp only [Act.put, s1, s2, s3, i64_w, i32_w]; rfl
       refine take_ (i := 2) (N := some 16) (v := ?_) (a' := ?_) q3_3 rfl rfl (take_ofW HT_.out HW_.out (by kernel_rfl)) (fun _ _ _ h => h) (Or.inl ⟨by rfl, ?_⟩) hHeld ?_ ?_; rotate_left
       · rintro w' ⟨s0, s1, s2, s3, s4, s5⟩; go_simp; with_reducible rfl
       rotate_left
       · simp only [Act.put, s1, s2, s3, i64_w, i32_w]; rfl
       refine one_ (i := 3) (N := some 17) q3_4 rfl rfl (one_of HT_.out (by kernel_rfl)) (by decide) (fun K hK => ?_); refine goes_ Try.func67 (by kernel_rfl) rfl #[.agg #[.string a0_0, .string a0_1, .bool a0_2], .string ((rd_T114 l1 x9_1).f0)] (by rfl) rfl rfl (by (try simp only [List.map_toArray, List.map_cons, List.map_nil]); first | done | rfl | (simp only [lD, lT]; rfl)) ?_; with_reducible refine (key_Has.calls a0_0 a0_1 a0_2 ((rd_T114 l1 x9_1).f0) true _ A7.out).mono ?_
       rintro e w63 ⟨rfl, hb⟩; refine ⟨_, rfl, ?_⟩; have n0_ := K0 (bB (g := gb102) (o := .cells #[.string a0_0, .string a0_1, .bool a0_2] 32 (0, 0)) (by (with_reducible repeat (first | refine bN ?_ _ | refine bD ?_ | refine bA ?_ _)); exact BK102.out) hb); have n1_ := K0 (bB (g := gb104) (o := .cells #[.string ((rd_T114 l1 x9_1).f0), .string ((rd_T114 l1 x9_1).f1), .bool false] 114 (0, 0)) (by (with_reducible repeat (first | refine bN ?_ _ | refine bD ?_ | refine bA ?_ _)); exact BK104.out) hb); have n2_ := K0 (below_step (by repeat (first | (with_reducible first | exact HB.out | apply wA | apply wN | apply wD | refine wS ?_ GE102.out | refine wS ?_ GE104.out) | exact HB.out)) hb); clear BK102 BK104 HB; have BK102 := n0_; have BK104 := n1_; have HB := n2_; clear n0_ n1_ n2_; (try clear hb)
       (try clear hb2)
       (try clear hk)
       (try clear hi)
       refine hK.out _ _ ⟨(bC BK102.out 0).trans rfl, (bC BK102.out 1).trans rfl, (bC BK102.out 2).trans rfl, (bC BK104.out 0).trans rfl, (bC BK104.out 1).trans rfl, (bC BK104.out 2).trans rfl⟩ (fun hHeld => ?_); clear hK K; refine norm_ (a' := ?_) ?_ ?_; rotate_left
       · show Act.put _ (some 17) _ = _; simp only [Act.put, s1, s2, s3, i64_w, i32_w]; rfl
       refine pure_ (i := 4) (N := some 18) (v := ?_) (a' := ?_) q3_5 rfl rfl (any_of HT_.out (by kernel_rfl)) (fun _ _ _ h => h) (Or.inl ⟨by rfl, ?_⟩) ?_ ?_; rotate_left
       · intro w'; go_simp; with_reducible rfl
       rotate_left
       · simp only [Act.put, s1, s2, s3, i64_w, i32_w]; rfl
       refine pure_ (i := 5) (N := some 19) (v := ?_) (a' := ?_) q3_6 rfl rfl (any_of HT_.out (by kernel_rfl)) (fun _ _ _ h => h) (Or.inl ⟨by rfl, ?_⟩) ?_ ?_; rotate_left
       · intro w'; go_simp; with_reducible rfl
       rotate_left
       · simp only [Act.put, s1, s2, s3, i64_w, i32_w]; rfl
       refine pure_ (i := 6) (N := some 20) (v := ?_) (a' := ?_) q3_7 rfl rfl (any_of HT_.out (by kernel_rfl)) (fun _ _ _ h => h) (Or.inl ⟨by rfl, ?_⟩) ?_ ?_; rotate_left
       · intro w'; go_simp; with_reducible rfl
       rotate_left
       · simp only [Act.put, s1, s2, s3, i64_w, i32_w]; rfl
       refine take_ (i := 7) (N := some 21) (v := ?_) (a' := ?_) q3_8 rfl rfl (take_ofW HT_.out HW_.out (by kernel_rfl)) (fun _ _ _ h => h) (Or.inl ⟨by rfl, ?_⟩) hHeld ?_ ?_; rotate_left
       · rintro w' ⟨s0, s1, s2, s3, s4, s5⟩; go_simp; with_reducible rfl
       rotate_left
       · simp only [Act.put, s1, s2, s3, i64_w, i32_w]; rfl
       refine pure_ (i := 8) (N := some 22) (v := ?_) (a' := ?_) q3_9 rfl rfl (any_of HT_.out (by kernel_rfl)) (fun _ _ _ h => h) (Or.inl ⟨by rfl, ?_⟩) ?_ ?_; rotate_left
       · intro w'; go_simp; with_reducible rfl
       rotate_left
       · simp only [Act.put, s1, s2, s3, i64_w, i32_w]; rfl
       refine pure_ (i := 9) (N := some 23) (v := undef) (a' := ?_) q3_10 rfl rfl (any_of HT_.out (by kernel_rfl)) (fun _ _ _ h => h) (Or.inr ⟨by rfl, rfl⟩) ?_ ?_; rotate_left
       · simp only [Act.put, s1, s2, s3, i64_w, i32_w]; rfl
       refine pure_ (i := 10) (N := some 24) (v := undef) (a' := ?_) q3_11 rfl rfl (any_of HT_.out (by kernel_rfl)) (fun _ _ _ h => h) (Or.inr ⟨by rfl, rfl⟩) ?_ ?_; rotate_left
       · simp only [Act.put, s1, s2, s3, i64_w, i32_w]; rfl
       refine pure_ (i := 11) (N := some 25) (v := undef) (a' := ?_) q3_12 rfl rfl (any_of HT_.out (by kernel_rfl)) (fun _ _ _ h => h) (Or.inr ⟨by rfl, rfl⟩) ?_ ?_; rotate_left
       · simp only [Act.put, s1, s2, s3, i64_w, i32_w]; rfl
       refine pure_ (i := 12) (N := some 26) (v := ?_) (a' := ?_) q3_13 rfl rfl (any_of HT_.out (by kernel_rfl)) (fun _ _ _ h => h) (Or.inl ⟨by rfl, ?_⟩) ?_ ?_; rotate_left
       · intro w'; go_simp; with_reducible rfl
       rotate_left
       · simp only [Act.put, s1, s2, s3, i64_w, i32_w]; rfl
       refine pure_ (i := 13) (N := some 27) (v := ?_) (a' := ?_) q3_14 rfl rfl (any_of HT_.out (by kernel_rfl)) (fun _ _ _ h => h) (Or.inl ⟨by rfl, ?_⟩) ?_ ?_; rotate_left
       · intro w'; go_simp; with_reducible rfl
       rotate_left
       · simp only [Act.put, s1, s2, s3, i64_w, i32_w]; rfl
       refine pure_ (i := 14) (N := some 28) (v := ?_) (a' := ?_) q3_15 rfl rfl (any_of HT_.out (by kernel_rfl)) (fun _ _ _ h => h) (Or.inl ⟨by rfl, ?_⟩) ?_ ?_; rotate_left
       · intro w'; go_simp; with_reducible rfl
       rotate_left
       · simp only [Act.put, s1, s2, s3, i64_w, i32_w]; rfl
       refine pure_ (i := 15) (N := some 29) (v := ?_) (a' := ?_) q3_16 rfl rfl (any_of HT_.out (by kernel_rfl)) (fun _ _ _ h => h) (Or.inl ⟨by rfl, ?_⟩) ?_ ?_; rotate_left
       · intro w'; go_simp; with_reducible rfl
       rotate_left
       · simp only [Act.put, s1, s2, s3, i64_w, i32_w]; rfl
       refine pure_ (i := 16) (N := some 30) (v := ?_) (a' := ?_) q3_17 rfl rfl (any_of HT_.out (by kernel_rfl)) (fun _ _ _ h => h) (Or.inl ⟨by rfl, ?_⟩) ?_ ?_; rotate_left
       · intro w'; go_simp; with_reducible rfl
       rotate_left
       · simp only [Act.put, s1, s2, s3, i64_w, i32_w]; rfl
       refine pure_ (i := 17) (N := some 31) (v := ?_) (a' := ?_) q3_18 rfl rfl (any_of HT_.out (by kernel_rfl)) (fun _ _ _ h => h) (Or.inl ⟨by rfl, ?_⟩) ?_ ?_; rotate_left
       · intro w'; go_simp; with_reducible rfl
       rotate_left
       · simp only [Act.put, s1, s2, s3, i64_w, i32_w]; rfl
       refine pure_ (i := 18) (N := some 32) (v := undef) (a' := ?_) q3_19 rfl rfl (any_of HT_.out (by kernel_rfl)) (fun _ _ _ h => h) (Or.inr ⟨by rfl, rfl⟩) ?_ ?_; rotate_left
       · simp only [Act.put, s1, s2, s3, i64_w, i32_w]; rfl
       refine pure_ (i := 19) (N := some 33) (v := undef) (a' := ?_) q3_20 rfl rfl (any_of HT_.out (by kernel_rfl)) (fun _ _ _ h => h) (Or.inr ⟨by rfl, rfl⟩) ?_ ?_; rotate_left
       · simp only [Act.put, s1, s2, s3, i64_w, i32_w]; rfl
       refine pure_ (i := 20) (N := some 34) (v := undef) (a' := ?_) q3_21 rfl rfl (any_of HT_.out (by kernel_rfl)) (fun _ _ _ h => h) (Or.inr ⟨by rfl, rfl⟩) ?_ ?_; rotate_left
       · simp only [Act.put, s1, s2, s3, i64_w, i32_w]; rfl
       refine pure_ (i := 21) (N := some 35) (v := undef) (a' := ?_) q3_22 rfl rfl (any_of HT_.out (by kernel_rfl)) (fun _ _ _ h => h) (Or.inr ⟨by rfl, rfl⟩) ?_ ?_; rotate_left
       · simp only [Act.put, s1, s2, s3, i64_w, i32_w]; rfl
       refine pure_ (i := 22) (N := some 36) (v := undef) (a' := ?_) q3_23 rfl rfl (any_of HT_.out (by kernel_rfl)) (fun _ _ _ h => h) (Or.inr ⟨by rfl, rfl⟩) ?_ ?_; rotate_left
       · simp only [Act.put, s1, s2, s3, i64_w, i32_w]; rfl
       refine pure_ (i := 23) (N := some 37) (v := undef) (a' := ?_) q3_30 rfl rfl (any_of HT_.out (by kernel_rfl)) (fun _ _ _ h => h) (Or.inr ⟨by rfl, rfl⟩) ?_ ?_; rotate_left
       · simp only [Act.put, s1, s2, s3, i64_w, i32_w]; rfl
       refine pure_ (i := 24) (N := some 38) (v := undef) (a' := ?_) q3_25 rfl rfl (any_of HT_.out (by kernel_rfl)) (fun _ _ _ h => h) (Or.inr ⟨by rfl, rfl⟩) ?_ ?_; rotate_left
       · simp only [Act.put, s1, s2, s3, i64_w, i32_w]; rfl
       refine pure_ (i := 25) (N := some 39) (v := undef) (a' := ?_) q3_26 rfl rfl (any_of HT_.out (by kernel_rfl)) (fun _ _ _ h => h) (Or.inr ⟨by rfl, rfl⟩) ?_ ?_; rotate_left
       · simp only [Act.put, s1, s2, s3, i64_w, i32_w]; rfl
       refine pure_ (i := 26) (N := some 40) (v := undef) (a' := ?_) q3_27 rfl rfl (any_of HT_.out (by kernel_rfl)) (fun _ _ _ h => h) (Or.inr ⟨by rfl, rfl⟩) ?_ ?_; rotate_left
       · simp only [Act.put, s1, s2, s3, i64_w, i32_w]; rfl
       refine pure_ (i := 27) (N := some 41) (v := ?_) (a' := ?_) q3_28 rfl rfl (any_of HT_.out (by kernel_rfl)) (fun _ _ _ h => h) (Or.inl ⟨by rfl, ?_⟩) ?_ ?_; rotate_left
       · intro w'; go_simp; with_reducible rfl
       rotate_left
       · simp only [Act.put, s1, s2, s3, i64_w, i32_w]; rfl
       refine pure_ (i := 28) (N := some 42) (v := ?_) (a' := ?_) q3_29 rfl rfl (any_of HT_.out (by kernel_rfl)) (fun _ _ _ h => h) (Or.inl ⟨by rfl, ?_⟩) ?_ ?_; rotate_left
       · intro w'; go_simp; with_reducible rfl
       rotate_left
       · simp only [Act.put, s1, s2, s3, i64_w, i32_w]; rfl
       refine done_ (done_of HT_.out (by kernel_rfl)) ?_; try go_wp2
       go_roundg k1
       case measure => have := HK1.out; omega
       case rel => exact ⟨(wrap64 (x9_1 + 1)), (by first | rfl | (simp; done) | (simp [*]; done)), H', ⟨by have := HK1.out; omega⟩, ⟨by (with_reducible repeat (first | refine bN ?_ _ | refine bD ?_ | refine bA ?_ _)); exact BK102.out⟩, ⟨by repeat (first | (with_reducible first | exact HB.out | apply wA | apply wN | apply wD | refine wS ?_ GE102.out | refine wS ?_ GE104.out) | exact HB.out)⟩⟩
      replace c8 := Bool.eq_false_iff.mpr c8; subst c8; have H1 : (some false) = some r := by rw [if_neg (show ¬ (false = true) by decide)] at H; exact H
      clear H; have H := H1; clear H1; obtain rfl := Option.some.inj H; have p103 : 0 ≤ (x9_1 : Int) := oT (by first | (with_reducible assumption) | assumption); have q103 : x9_1 < (l1.length : Int) := oT (by first | (with_reducible assumption) | assumption); obtain ⟨ad103, e103, hx103_0, hx103_1, hx103_2⟩ := at_T114b HR1.out HB.out x9_1 p103 q103
      cases e103; replace p103 := eq_true p103; replace q103 := eq_true q103; try go_wp2_with (first | ((with_reducible refine gate_dst (N := 6) rfl ?_); refine box_event ?hg (N := 6) ?hd (cs := #[.string (⟨#[]⟩ : ByteArray), .string (⟨#[]⟩ : ByteArray), .bool false]) (t := 114) ?hr ?_; (case hd => rfl); (case hg => rfl); (case hr => first | (go_simp; done) | (go_simp; rfl)); intro gb104 hg w64 hbox hb; have n0_ := K0 (bB (g := gb102) (o := .cells #[.string a0_0, .string a0_1, .bool a0_2] 32 (0, 0)) (by (with_reducible repeat (first | refine bN ?_ _ | refine bD ?_ | refine bA ?_ _)); exact BK102.out) hb); have n1_ := K0 (below_step (by repeat (first | (with_reducible first | exact HB.out | apply wA | apply wN | apply wD | refine wS ?_ GE102.out) | exact HB.out)) hb); have n2_ := K0 (hbox); have n3_ := K0 ((by rw [hg]; exact (below_size (by repeat (first | (with_reducible first | exact HB.out | apply wA | apply wN | apply wD | refine wS ?_ GE102.out) | exact HB.out))) : w.heap.size ≤ gb104)); have n4_ := K0 ((by rw [hg]; exact (below_size (by repeat (first | (with_reducible first | exact HB.out | apply wA | apply wN | apply wD | refine wS ?_ GE102.out) | exact HB.out))) : w.heap.size ≤ gb104)); have n5_ := K0 ((by rw [hg]; exact Nat.ne_of_lt (blk_lt (g := gb102) (o := .cells #[.string a0_0, .string a0_1, .bool a0_2] 32 (0, 0)) (by (with_reducible repeat (first | refine bN ?_ _ | refine bD ?_ | refine bA ?_ _)); exact BK102.out)) : gb102 ≠ gb104)); have n6_ := K0 ((by rw [hg]; exact Nat.ne_of_gt (blk_lt (g := gb102) (o := .cells #[.string a0_0, .string a0_1, .bool a0_2] 32 (0, 0)) (by (with_reducible repeat (first | refine bN ?_ _ | refine bD ?_ | refine bA ?_ _)); exact BK102.out)) : gb104 ≠ gb102)); clear BK102; clear HB; have BK102 := n0_; have HB := n1_; have BK104 := n2_; have GW104 := n3_; have GE104 := n4_; have NB102_104 := n5_; have NB104_102 := n6_; clear n0_ n1_ n2_ n3_ n4_ n5_ n6_; clear hb hbox hg; have hnb65 := NB104_102.out; have hnc65 := NB102_104.out; obtain ⟨hcz66_0, hcz66_1, hcz66_2⟩ := cellS3 BK104.out; obtain ⟨hfz66_0, hfz66_1, hfz66_2⟩ := frozS3 BK104.out))
      have n0_ : Aside0 ((((w64.setCell ⟨gb104, 0, none⟩ (.string ((rd_T114 l1 x9_1).f0))).setCell ⟨gb104, 1, none⟩ (.string ((rd_T114 l1 x9_1).f1))).setCell ⟨gb104, 2, none⟩ (.bool ((rd_T114 l1 x9_1).f2))).heap[gb102]? = some (.cells #[.string a0_0, .string a0_1, .bool a0_2] 32 (0, 0))) := ⟨by (with_reducible repeat (first | refine bN ?_ _ | refine bD ?_ | refine bA ?_ _)); refine blk_far ?_ NB102_104.out _; (with_reducible repeat (first | refine bN ?_ _ | refine bD ?_ | refine bA ?_ _)); refine blk_far ?_ NB102_104.out _; (with_reducible repeat (first | refine bN ?_ _ | refine bD ?_ | refine bA ?_ _)); refine blk_far ?_ NB102_104.out _; (with_reducible repeat (first | refine bN ?_ _ | refine bD ?_ | refine bA ?_ _)); exact BK102.out⟩; have n1_ : Aside0 ((((w64.setCell ⟨gb104, 0, none⟩ (.string ((rd_T114 l1 x9_1).f0))).setCell ⟨gb104, 1, none⟩ (.string ((rd_T114 l1 x9_1).f1))).setCell ⟨gb104, 2, none⟩ (.bool ((rd_T114 l1 x9_1).f2))).heap[gb104]? = some (.cells #[.string ((rd_T114 l1 x9_1).f0), .string ((rd_T114 l1 x9_1).f1), .bool ((rd_T114 l1 x9_1).f2)] 114 (0, 0))) := ⟨by (with_reducible repeat (first | refine bN ?_ _ | refine bD ?_ | refine bA ?_ _)); apply blkS3; (with_reducible repeat (first | refine bN ?_ _ | refine bD ?_ | refine bA ?_ _)); exact BK104.out⟩; have n2_ : Aside0 (Below w.heap.size w (((w64.setCell ⟨gb104, 0, none⟩ (.string ((rd_T114 l1 x9_1).f0))).setCell ⟨gb104, 1, none⟩ (.string ((rd_T114 l1 x9_1).f1))).setCell ⟨gb104, 2, none⟩ (.bool ((rd_T114 l1 x9_1).f2)))) := ⟨by repeat (first | (with_reducible first | exact HB.out | apply wA | apply wN | apply wD | refine wS ?_ GE102.out | refine wS ?_ GE104.out) | exact HB.out)⟩; (try clear BK102)
      (try clear BK104)
      (try clear HB)
      generalize (((w64.setCell ⟨gb104, 0, none⟩ (.string ((rd_T114 l1 x9_1).f0))).setCell ⟨gb104, 1, none⟩ (.string ((rd_T114 l1 x9_1).f1))).setCell ⟨gb104, 2, none⟩ (.bool ((rd_T114 l1 x9_1).f2))) = w67 at n0_ n1_ n2_ ⊢; have BK102 := n0_; have BK104 := n1_; have HB := n2_; clear n0_ n1_ n2_; have n0_ := K0 (bD BK102.out); have n1_ := K0 (bD BK104.out); have n2_ := K0 (wD HB.out); clear BK102 BK104 HB; have BK102 := n0_; have BK104 := n1_; have HB := n2_; clear n0_ n1_ n2_; refine start_ (n := 29) (S := fun w' => w'.cell? ⟨gb102, 0, none⟩ = some (.string a0_0) ∧ w'.cell? ⟨gb102, 1, none⟩ = some (.string a0_1) ∧ w'.cell? ⟨gb102, 2, none⟩ = some (.bool a0_2) ∧ w'.cell? ⟨gb104, 0, none⟩ = some (.string ((rd_T114 l1 x9_1).f0)) ∧ w'.cell? ⟨gb104, 1, none⟩ = some (.string ((rd_T114 l1 x9_1).f1)) ∧ w'.cell? ⟨gb104, 2, none⟩ = some (.bool ((rd_T114 l1 x9_1).f2))) (ds := []) q3_0 (by kernel_rfl) rfl rfl ⟨(bC BK102.out 0).trans rfl, (bC BK102.out 1).trans rfl, (bC BK102.out 2).trans rfl, (bC BK104.out 0).trans rfl, (bC BK104.out 1).trans rfl, (bC BK104.out 2).trans rfl⟩ (fun hHeld => ?_); refine with_tabW rev_rises.tab4 rev_rises.bits4 (fun HT_ HW_ => ?_)
      generalize w67.drew = w68 at BK102 BK104 HB hHeld ⊢; refine pure_ (i := 1) (N := some 15) (v := ?_) (a' := ?_) q3_1 rfl rfl (any_of HT_.out (by kernel_rfl)) (fun _ _ _ h => h) (Or.inl ⟨by rfl, ?_⟩) ?_ ?_; rotate_left
      · intro w'; go_simp; with_reducible rfl
      rotate_left
      · simp only [Act.put, s1, s2, s3, i64_w, i32_w]; rfl
      refine take_ (i := 0) (N := some 14) (v := ?_) (a' := ?_) q3_2 rfl rfl (take_ofW HT_.out HW_.out (by kernel_rfl)) (fun _ _ _ h => h) (Or.inl ⟨by rfl, ?_⟩) hHeld ?_ ?_; rotate_left
      · rintro w' ⟨s0, s1, s2, s3, s4, s5⟩; go_simp; with_reducible rfl
      rotate_left
      · simp only [Act.put, s1, s2, s3, i64_w, i32_w]; rfl
      refine take_ (i := 2) (N := some 16) (v := ?_) (a' := ?_) q3_3 rfl rfl (take_ofW HT_.out HW_.out (by kernel_rfl)) (fun _ _ _ h => h) (Or.inl ⟨by rfl, ?_⟩) hHeld ?_ ?_; rotate_left
      · rintro w' ⟨s0, s1, s2, s3, s4, s5⟩; go_simp; with_reducible rfl
      rotate_left
      · simp only [Act.put, s1, s2, s3, i64_w, i32_w]; rfl
      refine one_ (i := 3) (N := some 17) q3_4 rfl rfl (one_of HT_.out (by kernel_rfl)) (by decide) (fun K hK => ?_); refine goes_ Try.func67 (by kernel_rfl) rfl #[.agg #[.string a0_0, .string a0_1, .bool a0_2], .string ((rd_T114 l1 x9_1).f0)] (by rfl) rfl rfl (by (try simp only [List.map_toArray, List.map_cons, List.map_nil]); first | done | rfl | (simp only [lD, lT]; rfl)) ?_; with_reducible refine (key_Has.calls a0_0 a0_1 a0_2 ((rd_T114 l1 x9_1).f0) false _ A7.out).mono ?_
      rintro e w69 ⟨rfl, hb⟩; refine ⟨_, rfl, ?_⟩; have n0_ := K0 (bB (g := gb102) (o := .cells #[.string a0_0, .string a0_1, .bool a0_2] 32 (0, 0)) (by (with_reducible repeat (first | refine bN ?_ _ | refine bD ?_ | refine bA ?_ _)); exact BK102.out) hb); have n1_ := K0 (bB (g := gb104) (o := .cells #[.string ((rd_T114 l1 x9_1).f0), .string ((rd_T114 l1 x9_1).f1), .bool ((rd_T114 l1 x9_1).f2)] 114 (0, 0)) (by (with_reducible repeat (first | refine bN ?_ _ | refine bD ?_ | refine bA ?_ _)); exact BK104.out) hb); have n2_ := K0 (below_step (by repeat (first | (with_reducible first | exact HB.out | apply wA | apply wN | apply wD | refine wS ?_ GE102.out | refine wS ?_ GE104.out) | exact HB.out)) hb); clear BK102 BK104 HB; have BK102 := n0_; have BK104 := n1_; have HB := n2_; clear n0_ n1_ n2_; (try clear hb)
      (try clear hb2)
      (try clear hk)
      (try clear hi)
      refine hK.out _ _ ⟨(bC BK102.out 0).trans rfl, (bC BK102.out 1).trans rfl, (bC BK102.out 2).trans rfl, (bC BK104.out 0).trans rfl, (bC BK104.out 1).trans rfl, (bC BK104.out 2).trans rfl⟩ (fun hHeld => ?_); clear hK K; refine norm_ (a' := ?_) ?_ ?_; rotate_left
      · show Act.put _ (some 17) _ = _; simp only [Act.put, s1, s2, s3, i64_w, i32_w]; rfl
      refine pure_ (i := 4) (N := some 18) (v := ?_) (a' := ?_) q3_5 rfl rfl (any_of HT_.out (by kernel_rfl)) (fun _ _ _ h => h) (Or.inl ⟨by rfl, ?_⟩) ?_ ?_; rotate_left
      · intro w'; go_simp; with_reducible rfl
      rotate_left
      · simp only [Act.put, s1, s2, s3, i64_w, i32_w]; rfl
      refine pure_ (i := 5) (N := some 19) (v := ?_) (a' := ?_) q3_6 rfl rfl (any_of HT_.out (by kernel_rfl)) (fun _ _ _ h => h) (Or.inl ⟨by rfl, ?_⟩) ?_ ?_; rotate_left
      · intro w'; go_simp; with_reducible rfl
      rotate_left
      · simp only [Act.put, s1, s2, s3, i64_w, i32_w]; rfl
      refine pure_ (i := 6) (N := some 20) (v := undef) (a' := ?_) q3_7 rfl rfl (any_of HT_.out (by kernel_rfl)) (fun _ _ _ h => h) (Or.inr ⟨by rfl, rfl⟩) ?_ ?_; rotate_left
      · simp only [Act.put, s1, s2, s3, i64_w, i32_w]; rfl
      refine pure_ (i := 7) (N := some 21) (v := undef) (a' := ?_) q3_8 rfl rfl (any_of HT_.out (by kernel_rfl)) (fun _ _ _ h => h) (Or.inr ⟨by rfl, rfl⟩) ?_ ?_; rotate_left
      · simp only [Act.put, s1, s2, s3, i64_w, i32_w]; rfl
      refine pure_ (i := 8) (N := some 22) (v := undef) (a' := ?_) q3_9 rfl rfl (any_of HT_.out (by kernel_rfl)) (fun _ _ _ h => h) (Or.inr ⟨by rfl, rfl⟩) ?_ ?_; rotate_left
      · simp only [Act.put, s1, s2, s3, i64_w, i32_w]; rfl
      refine pure_ (i := 9) (N := some 23) (v := undef) (a' := ?_) q3_10 rfl rfl (any_of HT_.out (by kernel_rfl)) (fun _ _ _ h => h) (Or.inr ⟨by rfl, rfl⟩) ?_ ?_; rotate_left
      · simp only [Act.put, s1, s2, s3, i64_w, i32_w]; rfl
      refine pure_ (i := 10) (N := some 24) (v := undef) (a' := ?_) q3_11 rfl rfl (any_of HT_.out (by kernel_rfl)) (fun _ _ _ h => h) (Or.inr ⟨by rfl, rfl⟩) ?_ ?_; rotate_left
      · simp only [Act.put, s1, s2, s3, i64_w, i32_w]; rfl
      refine pure_ (i := 11) (N := some 25) (v := undef) (a' := ?_) q3_12 rfl rfl (any_of HT_.out (by kernel_rfl)) (fun _ _ _ h => h) (Or.inr ⟨by rfl, rfl⟩) ?_ ?_; rotate_left
      · simp only [Act.put, s1, s2, s3, i64_w, i32_w]; rfl
      refine pure_ (i := 12) (N := some 26) (v := undef) (a' := ?_) q3_13 rfl rfl (any_of HT_.out (by kernel_rfl)) (fun _ _ _ h => h) (Or.inr ⟨by rfl, rfl⟩) ?_ ?_; rotate_left
      · simp only [Act.put, s1, s2, s3, i64_w, i32_w]; rfl
      refine pure_ (i := 13) (N := some 27) (v := ?_) (a' := ?_) q3_14 rfl rfl (any_of HT_.out (by kernel_rfl)) (fun _ _ _ h => h) (Or.inl ⟨by rfl, ?_⟩) ?_ ?_; rotate_left
      · intro w'; go_simp; with_reducible rfl
      rotate_left
      · simp only [Act.put, s1, s2, s3, i64_w, i32_w]; rfl
      refine pure_ (i := 14) (N := some 28) (v := ?_) (a' := ?_) q3_15 rfl rfl (any_of HT_.out (by kernel_rfl)) (fun _ _ _ h => h) (Or.inl ⟨by rfl, ?_⟩) ?_ ?_; rotate_left
      · intro w'; go_simp; with_reducible rfl
      rotate_left
      · simp only [Act.put, s1, s2, s3, i64_w, i32_w]; rfl
      refine pure_ (i := 15) (N := some 29) (v := undef) (a' := ?_) q3_16 rfl rfl (any_of HT_.out (by kernel_rfl)) (fun _ _ _ h => h) (Or.inr ⟨by rfl, rfl⟩) ?_ ?_; rotate_left
      · simp only [Act.put, s1, s2, s3, i64_w, i32_w]; rfl
      refine pure_ (i := 16) (N := some 30) (v := undef) (a' := ?_) q3_17 rfl rfl (any_of HT_.out (by kernel_rfl)) (fun _ _ _ h => h) (Or.inr ⟨by rfl, rfl⟩) ?_ ?_; rotate_left
      · simp only [Act.put, s1, s2, s3, i64_w, i32_w]; rfl
      refine pure_ (i := 17) (N := some 31) (v := undef) (a' := ?_) q3_18 rfl rfl (any_of HT_.out (by kernel_rfl)) (fun _ _ _ h => h) (Or.inr ⟨by rfl, rfl⟩) ?_ ?_; rotate_left
      · simp only [Act.put, s1, s2, s3, i64_w, i32_w]; rfl
      refine pure_ (i := 18) (N := some 32) (v := undef) (a' := ?_) q3_19 rfl rfl (any_of HT_.out (by kernel_rfl)) (fun _ _ _ h => h) (Or.inr ⟨by rfl, rfl⟩) ?_ ?_; rotate_left
      · simp only [Act.put, s1, s2, s3, i64_w, i32_w]; rfl
      refine pure_ (i := 19) (N := some 33) (v := undef) (a' := ?_) q3_20 rfl rfl (any_of HT_.out (by kernel_rfl)) (fun _ _ _ h => h) (Or.inr ⟨by rfl, rfl⟩) ?_ ?_; rotate_left
      · simp only [Act.put, s1, s2, s3, i64_w, i32_w]; rfl
      refine pure_ (i := 20) (N := some 34) (v := undef) (a' := ?_) q3_21 rfl rfl (any_of HT_.out (by kernel_rfl)) (fun _ _ _ h => h) (Or.inr ⟨by rfl, rfl⟩) ?_ ?_; rotate_left
      · simp only [Act.put, s1, s2, s3, i64_w, i32_w]; rfl
      refine pure_ (i := 21) (N := some 35) (v := undef) (a' := ?_) q3_22 rfl rfl (any_of HT_.out (by kernel_rfl)) (fun _ _ _ h => h) (Or.inr ⟨by rfl, rfl⟩) ?_ ?_; rotate_left
      · simp only [Act.put, s1, s2, s3, i64_w, i32_w]; rfl
      refine pure_ (i := 22) (N := some 36) (v := undef) (a' := ?_) q3_23 rfl rfl (any_of HT_.out (by kernel_rfl)) (fun _ _ _ h => h) (Or.inr ⟨by rfl, rfl⟩) ?_ ?_; rotate_left
      · simp only [Act.put, s1, s2, s3, i64_w, i32_w]; rfl
      refine pure_ (i := 23) (N := some 37) (v := undef) (a' := ?_) q3_30 rfl rfl (any_of HT_.out (by kernel_rfl)) (fun _ _ _ h => h) (Or.inr ⟨by rfl, rfl⟩) ?_ ?_; rotate_left
      · simp only [Act.put, s1, s2, s3, i64_w, i32_w]; rfl
      refine pure_ (i := 24) (N := some 38) (v := undef) (a' := ?_) q3_25 rfl rfl (any_of HT_.out (by kernel_rfl)) (fun _ _ _ h => h) (Or.inr ⟨by rfl, rfl⟩) ?_ ?_; rotate_left
      · simp only [Act.put, s1, s2, s3, i64_w, i32_w]; rfl
      refine pure_ (i := 25) (N := some 39) (v := undef) (a' := ?_) q3_26 rfl rfl (any_of HT_.out (by kernel_rfl)) (fun _ _ _ h => h) (Or.inr ⟨by rfl, rfl⟩) ?_ ?_; rotate_left
      · simp only [Act.put, s1, s2, s3, i64_w, i32_w]; rfl
      refine pure_ (i := 26) (N := some 40) (v := undef) (a' := ?_) q3_27 rfl rfl (any_of HT_.out (by kernel_rfl)) (fun _ _ _ h => h) (Or.inr ⟨by rfl, rfl⟩) ?_ ?_; rotate_left
      · simp only [Act.put, s1, s2, s3, i64_w, i32_w]; rfl
      refine pure_ (i := 27) (N := some 41) (v := undef) (a' := ?_) q3_28 rfl rfl (any_of HT_.out (by kernel_rfl)) (fun _ _ _ h => h) (Or.inr ⟨by rfl, rfl⟩) ?_ ?_; rotate_left
      · simp only [Act.put, s1, s2, s3, i64_w, i32_w]; rfl
      refine pure_ (i := 28) (N := some 42) (v := ?_) (a' := ?_) q3_29 rfl rfl (any_of HT_.out (by kernel_rfl)) (fun _ _ _ h => h) (Or.inl ⟨by rfl, ?_⟩) ?_ ?_; rotate_left
      · intro w'; go_simp; with_reducible rfl
      rotate_left
      · simp only [Act.put, s1, s2, s3, i64_w, i32_w]; rfl
      refine done_ (done_of HT_.out (by kernel_rfl)) ?_; try go_wp2
      go_ret; exact ⟨by first | rfl | (simp [errW_none, errW_some] <;> rfl) | (simp [*, errW_none, errW_some] <;> rfl), by repeat (first | (with_reducible first | exact HB.out | apply wA | apply wN | apply wD | refine wS ?_ GE102.out | refine wS ?_ GE104.out) | exact HB.out)⟩
     rw [if_neg c6] at H; exact absurd H (by simp)
    rw [if_neg c5] at H; exact absurd H (by simp)
   rw [if_neg c4] at H; have c4b0 : decide (x9_1 < (l1.length : Int)) = false := dF c4; clear c4; obtain rfl := Option.some.inj H; go_wp2
   go_ret; exact ⟨by first | rfl | (simp [errW_none, errW_some] <;> rfl) | (simp [*, errW_none, errW_some] <;> rfl), by repeat (first | (with_reducible first | exact HB.out | apply wA | apply wN | apply wD | refine wS ?_ GE102.out) | exact HB.out)⟩
end Go.Proofs.Ytoaacdjcjicemaa.PRevBack
