-- written by a program of this session (the print, turned)
import Derived.Test.YtoaacdjcjicemaaPRevAppliesx0
import Derived.Test.YtoaacdjcjicemaaPRevAppliesx8a
import Derived.Test.YtoaacdjcjicemaaWAl
namespace Go.Proofs.Ytoaacdjcjicemaa.PRevApplies
open Go.RowKit Go.Proofs.YtoaacdjcjicemaaW.PrintWords Go.Proofs.YtoaacdjcjicemaaW.PrintLast Go.Proofs.YtoaacdjcjicemaaW.PrintMore
attribute [local go_sem] cell_self cell_there leq_str geq_str gtr_str max2_str max2_int min2_int max_two min_two max_three min_three max_four min_four   -- for this text's walks alone
set_option linter.unusedVariables false
set_option linter.unusedSimpArgs false
abbrev q9_0 : Array Bool := #[false, false, false, false, false, false, false, false, false, false, false, false, false, false, false, false, false, false, false, false, false, false, false, false]
abbrev q9_1 : Array Bool := #[false, true, false, false, false, false, false, false, false, false, false, false, false, false, false, false, false, false, false, false, false, false, false, false]
abbrev q9_2 : Array Bool := #[false, true, true, false, false, false, false, false, false, false, false, false, false, false, false, false, false, false, false, false, false, false, false, false]
abbrev q9_3 : Array Bool := #[false, true, true, true, false, false, false, false, false, false, false, false, false, false, false, false, false, false, false, false, false, false, false, false]
abbrev q9_4 : Array Bool := #[false, true, true, true, true, false, false, false, false, false, false, false, false, false, false, false, false, false, false, false, false, false, false, false]
abbrev q9_5 : Array Bool := #[true, true, true, true, true, false, false, false, false, false, false, false, false, false, false, false, false, false, false, false, false, false, false, false]
abbrev q9_6 : Array Bool := #[true, true, true, true, true, true, false, false, false, false, false, false, false, false, false, false, false, false, false, false, false, false, false, false]
abbrev q9_7 : Array Bool := #[true, true, true, true, true, true, true, false, false, false, false, false, false, false, false, false, false, false, false, false, false, false, false, false]
abbrev q9_8 : Array Bool := #[true, true, true, true, true, true, true, true, false, false, false, false, false, false, false, false, false, false, false, false, false, false, false, false]
abbrev q9_9 : Array Bool := #[true, true, true, true, true, true, true, true, true, false, false, false, false, false, false, false, false, false, false, false, false, false, false, false]
abbrev q9_10 : Array Bool := #[true, true, true, true, true, true, true, true, true, true, false, false, false, false, false, false, false, false, false, false, false, false, false, false]
abbrev q9_11 : Array Bool := #[true, true, true, true, true, true, true, true, true, true, true, false, false, false, false, false, false, false, false, false, false, false, false, false]
abbrev q9_12 : Array Bool := #[true, true, true, true, true, true, true, true, true, true, true, true, false, false, false, false, false, false, false, false, false, false, false, false]
abbrev q9_13 : Array Bool := #[true, true, true, true, true, true, true, true, true, true, true, true, true, false, false, false, false, false, false, false, false, false, false, false]
abbrev q9_14 : Array Bool := #[true, true, true, true, true, true, true, true, true, true, true, true, true, true, false, false, false, false, false, false, false, false, false, false]
abbrev q9_15 : Array Bool := #[true, true, true, true, true, true, true, true, true, true, true, true, true, true, true, false, false, false, false, false, false, false, false, false]
abbrev q9_16 : Array Bool := #[true, true, true, true, true, true, true, true, true, true, true, true, true, true, true, true, false, false, false, false, false, false, false, false]
abbrev q9_17 : Array Bool := #[true, true, true, true, true, true, true, true, true, true, true, true, true, true, true, true, true, false, false, false, false, false, false, false]
abbrev q9_18 : Array Bool := #[true, true, true, true, true, true, true, true, true, true, true, true, true, true, true, true, true, true, false, false, false, false, false, false]
abbrev q9_19 : Array Bool := #[true, true, true, true, true, true, true, true, true, true, true, true, true, true, true, true, true, true, true, false, false, false, false, false]
abbrev q9_20 : Array Bool := #[true, true, true, true, true, true, true, true, true, true, true, true, true, true, true, true, true, true, true, true, false, false, false, false]
abbrev q9_21 : Array Bool := #[true, true, true, true, true, true, true, true, true, true, true, true, true, true, true, true, true, true, true, true, true, false, false, false]
abbrev q9_22 : Array Bool := #[true, true, true, true, true, true, true, true, true, true, true, true, true, true, true, true, true, true, true, true, true, true, false, false]
abbrev q9_23 : Array Bool := #[true, true, true, true, true, true, true, true, true, true, true, true, true, true, true, true, true, true, true, true, true, true, true, false]
abbrev q9_24 : Array Bool := #[true, true, true, true, true, true, true, true, true, true, true, true, true, true, true, true, true, true, true, true, true, true, true, true]
abbrev q9_25 : Array Bool := #[false, false, false, false, false, false, false, false, false, false, false, false, false, false, false, false, false]
abbrev q9_26 : Array Bool := #[true, false, false, false, false, false, false, false, false, false, false, false, false, false, false, false, false]
abbrev q9_27 : Array Bool := #[true, true, false, false, false, false, false, false, false, false, false, false, false, false, false, false, false]
abbrev q9_28 : Array Bool := #[true, true, true, false, false, false, false, false, false, false, false, false, false, false, false, false, false]
abbrev q9_29 : Array Bool := #[true, true, true, true, false, false, false, false, false, false, false, false, false, false, false, false, false]
abbrev q9_30 : Array Bool := #[true, true, true, true, true, false, false, false, false, false, false, false, false, false, false, false, false]
abbrev q9_31 : Array Bool := #[true, true, true, true, true, true, false, false, false, false, false, false, false, false, false, false, false]
abbrev q9_32 : Array Bool := #[true, true, true, true, true, true, true, false, false, false, false, false, false, false, false, false, false]
abbrev q9_33 : Array Bool := #[true, true, true, true, true, true, true, true, false, false, false, false, false, false, false, false, false]
abbrev q9_34 : Array Bool := #[true, true, true, true, true, true, true, true, false, true, false, false, false, false, false, false, false]
abbrev q9_35 : Array Bool := #[true, true, true, true, true, true, true, true, false, true, true, false, false, false, false, false, false]
abbrev q9_36 : Array Bool := #[true, true, true, true, true, true, true, true, false, true, true, true, false, false, false, false, false]
abbrev q9_37 : Array Bool := #[true, true, true, true, true, true, true, true, false, true, true, true, true, false, false, false, false]
abbrev q9_38 : Array Bool := #[true, true, true, true, true, true, true, true, true, true, true, true, true, false, false, false, false]
abbrev q9_39 : Array Bool := #[true, true, true, true, true, true, true, true, true, true, true, true, true, true, false, false, false]
abbrev q9_40 : Array Bool := #[true, true, true, true, true, true, true, true, true, true, true, true, true, true, true, false, false]
abbrev q9_41 : Array Bool := #[true, true, true, true, true, true, true, true, true, true, true, true, true, true, true, true, false]
abbrev q9_42 : Array Bool := #[true, true, true, true, true, true, true, true, true, true, true, true, true, true, true, true, true]
abbrev q9_43 : Array Bool := #[true, true, true, true, true, true, true, true, true, false, false, false, false, false, false, false, false]
abbrev q9_44 : Array Bool := #[true, true, true, true, true, true, true, true, true, true, false, false, false, false, false, false, false]
abbrev q9_45 : Array Bool := #[true, true, true, true, true, true, true, true, true, true, true, false, false, false, false, false, false]
abbrev q9_46 : Array Bool := #[true, true, true, true, true, true, true, true, true, true, true, true, false, false, false, false, false]
/-! ### rundleref08_May: function 20 -/
mutual
def rundleref08_May.l0 : Nat → List (S62) → Int → ByteArray → ByteArray → Bool → Option (Bool)
 | 0, _, _, _, _, _ => none
 | k + 1, x1, x5, x297000, x297001, x297002 => if x5 < (x1.length : Int) then (if 0 ≤ x5 then ((rundleref04_Has.f k x297000 x297001 x297002 ((rd_T62 x1 x5).f0)).bind fun t298 => (if t298 = true then (if (rd_T62 x1 x5).f2 = true then (rundleref08_May.j1 k x1 x5 (decide ((((rd_T62 x1 x5).f1).size : Int) > 0)) x297000 x297001 x297002) else (rundleref08_May.j1 k x1 x5 false x297000 x297001 x297002)) else (rundleref08_May.j1 k x1 x5 true x297000 x297001 x297002))) else (none)) else (some true)
def rundleref08_May.j1 : Nat → List (S62) → Int → Bool → ByteArray → ByteArray → Bool → Option (Bool)
 | 0, _, _, _, _, _, _ => none
 | k + 1, x1, x5, x35, x297000, x297001, x297002 => if x35 = true then (some false) else (if x5 > 0 then (if 0 ≤ (wrap64 (x5 - 1)) then (if (wrap64 (x5 - 1)) < (x1.length : Int) then (if 0 ≤ x5 then (if x5 < (x1.length : Int) then ((rundleref04_Less.f k ((rd_T62 x1 (wrap64 (x5 - 1))).f0) ((rd_T62 x1 x5).f0)).bind fun t303 => (if t303 = true then (rundleref08_May.l0 k x1 (wrap64 (x5 + 1)) x297000 x297001 x297002) else (some false))) else (none)) else (none)) else (none)) else (none)) else (rundleref08_May.l0 k x1 (wrap64 (x5 + 1)) x297000 x297001 x297002))
end
def rundleref08_May.f (k : Nat) (a0_0 : ByteArray) (a0_1 : ByteArray) (a0_2 : Bool) (l1 : List (S62)) : Option (Bool) := rundleref08_May.l0 k l1 0 a0_0 a0_1 a0_2
def rundleref08_May.T4 : Bool × List (List Nat × List Nat) := (true, [([], []), ([], []), ([], []), ([1, 2], [1, 2]), ([3], [3]), ([4], [4]), ([0, 5], [0, 5]), ([6], [6]), ([7, 6], [7]), ([8], [8]), ([8], [8]), ([9, 10, 8], [8, 9, 10]), ([11, 8], [8, 11]), ([12, 8], [8, 12]), ([13, 8, 8], [8, 13]), ([14], [14]), ([14], [14]), ([15, 16, 14], [14, 15, 16]), ([17, 14], [14, 17]), ([18, 14], [14, 18]), ([19, 14], [14, 19]), ([20, 14], [14, 20]), ([14, 21, 8], [8, 14, 21]), ([8, 22], [8, 22])])
def rundleref08_May.B4 : List Nat := [0, 0, 0, 6, 14, 30, 63, 127, 255, 511, 511, 2047, 4095, 8191, 16383, 32767, 32767, 131071, 262143, 524287, 1048575, 2097151, 4194303, 8388607]
theorem rundleref08_May.tab4 : rtab .any (opsOf Try.f20 4) = rundleref08_May.T4 := by kernel_rfl
theorem rundleref08_May.bits4 : waitsOk rundleref08_May.T4.2 rundleref08_May.B4 = true := by kernel_rfl
def rundleref08_May.T6 : Bool × List (List Nat × List Nat) := (true, [([], []), ([0], [0]), ([1], [1]), ([2], [2]), ([2], [2]), ([4, 2], [2, 4]), ([3, 5, 2], [2, 3, 5]), ([6, 2], [2, 6]), ([7, 2], [2, 7]), ([2], [2]), ([2], [2]), ([9, 10, 2], [2, 9, 10]), ([11, 2], [2, 11]), ([12, 2], [2, 12]), ([8, 13, 2, 2], [2, 8, 13]), ([14, 2], [2, 14]), ([2, 15], [2, 15])])
def rundleref08_May.B6 : List Nat := [0, 1, 3, 7, 7, 23, 63, 127, 255, 7, 7, 1543, 3591, 7687, 16383, 32767, 65535]
theorem rundleref08_May.tab6 : rtab .any (opsOf Try.f20 6) = rundleref08_May.T6 := by kernel_rfl
theorem rundleref08_May.bits6 : waitsOk rundleref08_May.T6.2 rundleref08_May.B6 = true := by kernel_rfl
set_option maxHeartbeats 8000000 in
set_option maxRecDepth 100000 in
theorem rundleref08_May.calls (k : Nat) (a0_0 : ByteArray) (a0_1 : ByteArray) (a0_2 : Bool) (A1 : Option Addr) (c1 : Nat) (l1 : List (S62)) (r : Bool) (w : World) (hr1 : Kd.C k62 w A1 l1.length l1) (hc1 : l1.length ≤ c1) (h : rundleref08_May.f k a0_0 a0_1 a0_2 l1 = some r) :
  Calls Try.prog 20 #[.agg #[.string a0_0, .string a0_1, .bool a0_2], .slice A1 l1.length c1] w fun e w' => e = .returned (.bool r) ∧ Below w.heap.size w w' := by
 have hu23 := Try.underlying23
 have HR1 := K0 hr1
 have HC1 := K0 hc1
 clear hr1 hc1
 have HB := K0 (Below.refl w.heap.size w)
 have H : (rundleref08_May.l0 k l1 0 a0_0 a0_1 a0_2) = some r := h
 clear h
 have H' := K0 H
 clear H
 go_enter Try.func20, Try.ntmps20
 go_wp2_with (first | ((with_reducible refine gate_dst (N := 2) rfl ?_); (try (refine gate_guard (by rfl) ?_; dsimp only)); refine box_event ?hg (N := 2) ?hd (cs := #[.string a0_0, .string a0_1, .bool a0_2]) (t := 23) ?hr ?_; (case hd => rfl); (case hg => rfl); (case hr => first | (go_simp; done) | (go_simp; rfl)); intro gb296 hg w3 hbox hb; have n0_ := K0 (below_step (by repeat (first | (with_reducible first | exact HB.out | apply wA | apply wN | apply wD) | exact HB.out)) hb); have n1_ := K0 (hbox); have n2_ := K0 ((by rw [hg]; exact (below_size (by repeat (first | (with_reducible first | exact HB.out | apply wA | apply wN | apply wD) | exact HB.out))) : w.heap.size ≤ gb296)); have n3_ := K0 ((by rw [hg]; exact (below_size (by repeat (first | (with_reducible first | exact HB.out | apply wA | apply wN | apply wD) | exact HB.out))) : w.heap.size ≤ gb296)); clear HB; have HB := n0_; have BK296 := n1_; have GW296 := n2_; have GE296 := n3_; clear n0_ n1_ n2_ n3_; clear hb hbox hg))
 go_loopg [5] k (fun kq v5 w' => ∃ (x5_1 : Int), v5 = .int .i64 x5_1 ∧ Aside0 (rundleref08_May.l0 kq l1 x5_1 a0_0 a0_1 a0_2 = some r) ∧ Aside0 (kq ≤ k) ∧ Aside0 (w'.heap[gb296]? = some (.cells #[.string a0_0, .string a0_1, .bool a0_2] 23 (0, 0))) ∧ Aside0 (Below w.heap.size w w'))
 case atStart => exact ⟨(0), (by first | rfl | (simp; done) | (simp [*]; done)), H', ⟨Nat.le_refl _⟩, ⟨by (with_reducible repeat (first | refine bN ?_ _ | refine bD ?_ | refine bA ?_ _)); exact BK296.out⟩, ⟨by repeat (first | (with_reducible first | exact HB.out | apply wA | apply wN | apply wD | refine wS ?_ GE296.out) | exact HB.out)⟩⟩
 case round =>
  clear H'
  try clear c1
  try clear c2
  try clear p2
  obtain ⟨x5_1, rfl, HA, HK1, BK296, HB⟩ := hrel
  cases gk with
  | zero => exact absurd HA.out (by simp [rundleref08_May.l0])
  | succ k1 =>
   have H := HA.out; clear HA; simp only [rundleref08_May.l0] at H; by_cases c4 : x5_1 < (l1.length : Int)
   ·
    rw [if_pos c4] at H; have c4b0 : decide (x5_1 < (l1.length : Int)) = true := dT c4; clear c4; have HC5 := K0 H; clear H; go_upto_region 4 with (fail)
    go_cut [35] (fun v35 wc => ∃ (kq : Nat) (x35_4 : Bool), v35 = .bool x35_4 ∧ Aside0 (rundleref08_May.j1 kq l1 x5_1 x35_4 a0_0 a0_1 a0_2 = some r) ∧ Aside0 (kq ≤ k1) ∧ Aside0 (wc.heap[gb296]? = some (.cells #[.string a0_0, .string a0_1, .bool a0_2] 23 (0, 0))) ∧ Aside0 (Below w.heap.size w wc))
    case first =>
     have H := HC5.out; clear HC5; by_cases c6 : 0 ≤ x5_1
     ·
      rw [if_pos c6] at H; have c6b0 : decide (0 ≤ x5_1) = true := dT c6; clear c6; (first | rw [c6b0] | (simp only [i64_w, i32_w]; rw [c6b0]) | skip)
      replace H := Option.bind_eq_some_iff.mp H; obtain ⟨t298, A70, H⟩ := H; replace H : (if t298 = true then (if (rd_T62 l1 x5_1).f2 = true then (rundleref08_May.j1 k1 l1 x5_1 (decide ((((rd_T62 l1 x5_1).f1).size : Int) > 0)) a0_0 a0_1 a0_2) else (rundleref08_May.j1 k1 l1 x5_1 false a0_0 a0_1 a0_2)) else (rundleref08_May.j1 k1 l1 x5_1 true a0_0 a0_1 a0_2)) = some r := H; have A7 := K0 A70; clear A70; by_cases c8 : t298 = true
      ·
       subst c8; have H1 : (if (rd_T62 l1 x5_1).f2 = true then (rundleref08_May.j1 k1 l1 x5_1 (decide ((((rd_T62 l1 x5_1).f1).size : Int) > 0)) a0_0 a0_1 a0_2) else (rundleref08_May.j1 k1 l1 x5_1 false a0_0 a0_1 a0_2)) = some r := by rw [if_pos rfl] at H; exact H
       clear H; have H := H1; clear H1; obtain ⟨bq9, hbq9⟩ : ∃ b_ : Bool, b_ = ((rd_T62 l1 x5_1).f2) := ⟨_, rfl⟩; replace H : (if bq9 = true then (rundleref08_May.j1 k1 l1 x5_1 (decide ((((rd_T62 l1 x5_1).f1).size : Int) > 0)) a0_0 a0_1 a0_2) else (rundleref08_May.j1 k1 l1 x5_1 false a0_0 a0_1 a0_2)) = some r := by rw [← hbq9] at H; exact H
       have Nbq9 := K0 hbq9; clear hbq9; by_cases c10 : bq9 = true
       ·
        subst c10; have H1 : (rundleref08_May.j1 k1 l1 x5_1 (decide ((((rd_T62 l1 x5_1).f1).size : Int) > 0)) a0_0 a0_1 a0_2) = some r := by rw [if_pos rfl] at H; exact H
        clear H; have H := H1; clear H1; have H' := K0 H; clear H; try go_wp2
        have n0_ := K0 (bD BK296.out); have n1_ := K0 (wD HB.out); clear BK296 HB; have BK296 := n0_; have HB := n1_; clear n0_ n1_; have p297 : 0 ≤ (x5_1 : Int) := oT (by first | (with_reducible assumption) | assumption); have q297 : x5_1 < (l1.length : Int) := oT (by first | (with_reducible assumption) | assumption); obtain ⟨ad297, e297, hx297_0, hx297_1, hx297_2⟩ := at_T62 HR1.out x5_1 p297 q297; have hw297_2 := hx297_2; have hw297_1 := hx297_1; have hw297_0 := hx297_0; (try rw [← Nbq9.out] at hx297_2)
        (try rw [← Nbq9.out] at hw297_2)
        cases e297; replace hx297_0 := (HB.out.cell (bL w _ hx297_0)).trans hx297_0; replace hx297_1 := (HB.out.cell (bL w _ hx297_1)).trans hx297_1; replace hx297_2 := (HB.out.cell (bL w _ hx297_2)).trans hx297_2; replace p297 := eq_true p297; replace q297 := eq_true q297; have p299 : 0 ≤ (x5_1 : Int) := oT (by first | (with_reducible assumption) | assumption); have q299 : x5_1 < (l1.length : Int) := oT (by first | (with_reducible assumption) | assumption); obtain ⟨ad299, e299, hx299_0, hx299_1, hx299_2⟩ := at_T62 HR1.out x5_1 p299 q299; have hw299_2 := hx299_2; have hw299_1 := hx299_1; have hw299_0 := hx299_0; (try rw [← Nbq9.out] at hx299_2)
        (try rw [← Nbq9.out] at hw299_2)
        obtain rfl : ad297 = ad299 := (by injection e299); replace hx299_0 := (HB.out.cell (bL w _ hx299_0)).trans hx299_0; replace hx299_1 := (HB.out.cell (bL w _ hx299_1)).trans hx299_1; replace hx299_2 := (HB.out.cell (bL w _ hx299_2)).trans hx299_2; replace p299 := eq_true p299; replace q299 := eq_true q299; have p300 : 0 ≤ (x5_1 : Int) := oT (by first | (with_reducible assumption) | assumption); have q300 : x5_1 < (l1.length : Int) := oT (by first | (with_reducible assumption) | assumption); obtain ⟨ad300, e300, hx300_0, hx300_1, hx300_2⟩ := at_T62 HR1.out x5_1 p300 q300; have hw300_2 := hx300_2; have hw300_1 := hx300_1; have hw300_0 := hx300_0; (try rw [← Nbq9.out] at hx300_2)
        (try rw [← Nbq9.out] at hw300_2)
        obtain rfl : ad297 = ad300 := (by injection e300); replace hx300_0 := (HB.out.cell (bL w _ hx300_0)).trans hx300_0; replace hx300_1 := (HB.out.cell (bL w _ hx300_1)).trans hx300_1; replace hx300_2 := (HB.out.cell (bL w _ hx300_2)).trans hx300_2; replace p300 := eq_true p300; replace q300 := eq_true q300; refine start_ (n := 24) (S := fun w' => w'.cell? ⟨gb296, 0, none⟩ = some (.string a0_0) ∧ w'.cell? ⟨gb296, 1, none⟩ = some (.string a0_1) ∧ w'.cell? ⟨gb296, 2, none⟩ = some (.bool a0_2) ∧ w'.cell? (ad297.add ((x5_1).toNat * 3)) = some (.string ((rd_T62 l1 x5_1).f0)) ∧ w'.cell? ⟨(ad297.add ((x5_1).toNat * 3)).block, (ad297.add ((x5_1).toNat * 3)).off + 1, none⟩ = some (.string ((rd_T62 l1 x5_1).f1)) ∧ w'.cell? ⟨(ad297.add ((x5_1).toNat * 3)).block, (ad297.add ((x5_1).toNat * 3)).off + 2, none⟩ = some (.bool true) ∧ w'.cell? (ad297.add ((x5_1).toNat * 3)) = some (.string ((rd_T62 l1 x5_1).f0)) ∧ w'.cell? ⟨(ad297.add ((x5_1).toNat * 3)).block, (ad297.add ((x5_1).toNat * 3)).off + 1, none⟩ = some (.string ((rd_T62 l1 x5_1).f1)) ∧ w'.cell? ⟨(ad297.add ((x5_1).toNat * 3)).block, (ad297.add ((x5_1).toNat * 3)).off + 2, none⟩ = some (.bool true) ∧ w'.cell? (ad297.add ((x5_1).toNat * 3)) = some (.string ((rd_T62 l1 x5_1).f0)) ∧ w'.cell? ⟨(ad297.add ((x5_1).toNat * 3)).block, (ad297.add ((x5_1).toNat * 3)).off + 1, none⟩ = some (.string ((rd_T62 l1 x5_1).f1)) ∧ w'.cell? ⟨(ad297.add ((x5_1).toNat * 3)).block, (ad297.add ((x5_1).toNat * 3)).off + 2, none⟩ = some (.bool (true))) (ds := []) q9_0 (by kernel_rfl) rfl rfl ⟨(bC BK296.out 0).trans rfl, (bC BK296.out 1).trans rfl, (bC BK296.out 2).trans rfl, ((HB.out.cell (bL w _ hw297_0)).trans hw297_0), ((HB.out.cell (bL w _ hw297_1)).trans hw297_1), ((HB.out.cell (bL w _ hw297_2)).trans hw297_2), ((HB.out.cell (bL w _ hw299_0)).trans hw299_0), ((HB.out.cell (bL w _ hw299_1)).trans hw299_1), ((HB.out.cell (bL w _ hw299_2)).trans hw299_2), ((HB.out.cell (bL w _ hw300_0)).trans hw300_0), ((HB.out.cell (bL w _ hw300_1)).trans hw300_1), ((HB.out.cell (bL w _ hw300_2)).trans hw300_2)⟩ (fun hHeld => ?_); refine with_tabW rundleref08_May.tab4 rundleref08_May.bits4 (fun HT_ HW_ => ?_)
        generalize wr.drew = w11 at BK296 HB hx297_0 hx297_1 hx297_2 hx299_0 hx299_1 hx299_2 hx300_0 hx300_1 hx300_2 hHeld ⊢; refine pure_ (i := 1) (N := some 13) (v := ?_) (a' := ?_) q9_1 rfl rfl (any_of HT_.out (by kernel_rfl)) (fun _ _ _ h => h) (Or.inl ⟨by rfl, ?_⟩) ?_ ?_; rotate_left
        · intro w'; go_simp; with_reducible rfl
        rotate_left
        · simp only [Act.put, s1, s2, s3, i64_w, i32_w]; rfl
        refine pure_ (i := 2) (N := some 14) (v := ?_) (a' := ?_) q9_2 rfl rfl (any_of HT_.out (by kernel_rfl)) (fun _ _ _ h => h) (Or.inl ⟨by rfl, ?_⟩) ?_ ?_; rotate_left
        · intro w'; go_simp; with_reducible rfl
        rotate_left
        · simp only [Act.put, s1, s2, s3, i64_w, i32_w]; rfl
        refine pure_ (i := 3) (N := some 15) (v := ?_) (a' := ?_) q9_3 rfl rfl (any_of HT_.out (by kernel_rfl)) (fun _ _ _ h => h) (Or.inl ⟨by rfl, ?_⟩) ?_ ?_; rotate_left
        · intro w'; go_simp; with_reducible rfl
        rotate_left
        · simp only [Act.put, s1, s2, s3, i64_w, i32_w]; rfl
        refine pure_ (i := 4) (N := some 16) (v := ?_) (a' := ?_) q9_4 rfl rfl (any_of HT_.out (by kernel_rfl)) (fun _ _ _ h => h) (Or.inl ⟨by rfl, ?_⟩) ?_ ?_; rotate_left
        · intro w'; go_simp; with_reducible rfl
        rotate_left
        · simp only [Act.put, s1, s2, s3, i64_w, i32_w]; rfl
        refine take_ (i := 0) (N := some 12) (v := ?_) (a' := ?_) q9_5 rfl rfl (take_ofW HT_.out HW_.out (by kernel_rfl)) (fun _ _ _ h => h) (Or.inl ⟨by rfl, ?_⟩) hHeld ?_ ?_; rotate_left
        · rintro w' ⟨s0, s1, s2, s3, s4, s5, s6, s7, s8, s9, s10, s11⟩; go_simp; with_reducible rfl
        rotate_left
        · simp only [Act.put, s1, s2, s3, i64_w, i32_w]; rfl
        refine take_ (i := 5) (N := some 17) (v := ?_) (a' := ?_) q9_6 rfl rfl (take_ofW HT_.out HW_.out (by kernel_rfl)) (fun _ _ _ h => h) (Or.inl ⟨by rfl, ?_⟩) hHeld ?_ ?_; rotate_left
        · rintro w' ⟨s0, s1, s2, s3, s4, s5, s6, s7, s8, s9, s10, s11⟩; go_simp; with_reducible rfl
        rotate_left
        · simp only [Act.put, s1, s2, s3, i64_w, i32_w]; rfl
        refine one_ (i := 6) (N := some 18) q9_7 rfl rfl (one_of HT_.out (by kernel_rfl)) (by decide) (fun K hK => ?_); refine goes_ Try.func58 (by kernel_rfl) rfl #[.agg #[.string a0_0, .string a0_1, .bool a0_2], .string ((rd_T62 l1 x5_1).f0)] (by rfl) rfl rfl (by (try simp only [List.map_toArray, List.map_cons, List.map_nil]); first | done | rfl | (simp only [lD, lT]; rfl)) ?_; with_reducible refine (rundleref04_Has.calls k1 a0_0 a0_1 a0_2 ((rd_T62 l1 x5_1).f0) true _ A7.out).mono ?_
        rintro e w12 ⟨rfl, hb⟩; refine ⟨_, rfl, ?_⟩; have n0_ := K0 (bB (g := gb296) (o := .cells #[.string a0_0, .string a0_1, .bool a0_2] 23 (0, 0)) (by (with_reducible repeat (first | refine bN ?_ _ | refine bD ?_ | refine bA ?_ _)); exact BK296.out) hb); have n1_ := K0 (below_step (by repeat (first | (with_reducible first | exact HB.out | apply wA | apply wN | apply wD | refine wS ?_ GE296.out) | exact HB.out)) hb); clear BK296 HB; have BK296 := n0_; have HB := n1_; clear n0_ n1_; (try clear hb)
        (try clear hb2)
        (try clear hk)
        (try clear hi)
        refine hK.out _ _ ⟨(bC BK296.out 0).trans rfl, (bC BK296.out 1).trans rfl, (bC BK296.out 2).trans rfl, ((HB.out.cell (bL w _ hw297_0)).trans hw297_0), ((HB.out.cell (bL w _ hw297_1)).trans hw297_1), ((HB.out.cell (bL w _ hw297_2)).trans hw297_2), ((HB.out.cell (bL w _ hw299_0)).trans hw299_0), ((HB.out.cell (bL w _ hw299_1)).trans hw299_1), ((HB.out.cell (bL w _ hw299_2)).trans hw299_2), ((HB.out.cell (bL w _ hw300_0)).trans hw300_0), ((HB.out.cell (bL w _ hw300_1)).trans hw300_1), ((HB.out.cell (bL w _ hw300_2)).trans hw300_2)⟩ (fun hHeld => ?_); clear hK K; refine norm_ (a' := ?_) ?_ ?_; rotate_left
        · show Act.put _ (some 18) _ = _; simp only [Act.put, s1, s2, s3, i64_w, i32_w]; rfl
        refine pure_ (i := 7) (N := some 19) (v := ?_) (a' := ?_) q9_8 rfl rfl (any_of HT_.out (by kernel_rfl)) (fun _ _ _ h => h) (Or.inl ⟨by rfl, ?_⟩) ?_ ?_; rotate_left
        · intro w'; go_simp; with_reducible rfl
        rotate_left
        · simp only [Act.put, s1, s2, s3, i64_w, i32_w]; rfl
        refine pure_ (i := 8) (N := some 20) (v := ?_) (a' := ?_) q9_9 rfl rfl (any_of HT_.out (by kernel_rfl)) (fun _ _ _ h => h) (Or.inl ⟨by rfl, ?_⟩) ?_ ?_; rotate_left
        · intro w'; go_simp; with_reducible rfl
        rotate_left
        · simp only [Act.put, s1, s2, s3, i64_w, i32_w]; rfl
        refine pure_ (i := 9) (N := some 21) (v := ?_) (a' := ?_) q9_10 rfl rfl (any_of HT_.out (by kernel_rfl)) (fun _ _ _ h => h) (Or.inl ⟨by rfl, ?_⟩) ?_ ?_; rotate_left
        · intro w'; go_simp; with_reducible rfl
        rotate_left
        · simp only [Act.put, s1, s2, s3, i64_w, i32_w]; rfl
        refine pure_ (i := 10) (N := some 22) (v := ?_) (a' := ?_) q9_11 rfl rfl (any_of HT_.out (by kernel_rfl)) (fun _ _ _ h => h) (Or.inl ⟨by rfl, ?_⟩) ?_ ?_; rotate_left
        · intro w'; go_simp; with_reducible rfl
        rotate_left
        · simp only [Act.put, s1, s2, s3, i64_w, i32_w]; rfl
        refine pure_ (i := 11) (N := some 23) (v := ?_) (a' := ?_) q9_12 rfl rfl (any_of HT_.out (by kernel_rfl)) (fun _ _ _ h => h) (Or.inl ⟨by rfl, ?_⟩) ?_ ?_; rotate_left
        · intro w'; go_simp; with_reducible rfl
        rotate_left
        · simp only [Act.put, s1, s2, s3, i64_w, i32_w]; rfl
        refine pure_ (i := 12) (N := some 24) (v := ?_) (a' := ?_) q9_13 rfl rfl (any_of HT_.out (by kernel_rfl)) (fun _ _ _ h => h) (Or.inl ⟨by rfl, ?_⟩) ?_ ?_; rotate_left
        · intro w'; go_simp; with_reducible rfl
        rotate_left
        · simp only [Act.put, s1, s2, s3, i64_w, i32_w]; rfl
        refine take_ (i := 13) (N := some 25) (v := ?_) (a' := ?_) q9_14 rfl rfl (take_ofW HT_.out HW_.out (by kernel_rfl)) (fun _ _ _ h => h) (Or.inl ⟨by rfl, ?_⟩) hHeld ?_ ?_; rotate_left
        · rintro w' ⟨s0, s1, s2, s3, s4, s5, s6, s7, s8, s9, s10, s11⟩; go_simp; with_reducible rfl
        rotate_left
        · simp only [Act.put, s1, s2, s3, i64_w, i32_w]; rfl
        refine pure_ (i := 14) (N := some 26) (v := ?_) (a' := ?_) q9_15 rfl rfl (any_of HT_.out (by kernel_rfl)) (fun _ _ _ h => h) (Or.inl ⟨by rfl, ?_⟩) ?_ ?_; rotate_left
        · intro w'; go_simp; with_reducible rfl
        rotate_left
        · simp only [Act.put, s1, s2, s3, i64_w, i32_w]; rfl
        refine pure_ (i := 15) (N := some 27) (v := ?_) (a' := ?_) q9_16 rfl rfl (any_of HT_.out (by kernel_rfl)) (fun _ _ _ h => h) (Or.inl ⟨by rfl, ?_⟩) ?_ ?_; rotate_left
        · intro w'; go_simp; with_reducible rfl
        rotate_left
        · simp only [Act.put, s1, s2, s3, i64_w, i32_w]; rfl
        refine pure_ (i := 16) (N := some 28) (v := ?_) (a' := ?_) q9_17 rfl rfl (any_of HT_.out (by kernel_rfl)) (fun _ _ _ h => h) (Or.inl ⟨by rfl, ?_⟩) ?_ ?_; rotate_left
        · intro w'; go_simp; with_reducible rfl
        rotate_left
        · simp only [Act.put, s1, s2, s3, i64_w, i32_w]; rfl
        refine pure_ (i := 17) (N := some 29) (v := ?_) (a' := ?_) q9_18 rfl rfl (any_of HT_.out (by kernel_rfl)) (fun _ _ _ h => h) (Or.inl ⟨by rfl, ?_⟩) ?_ ?_; rotate_left
        · intro w'; go_simp; with_reducible rfl
        rotate_left
        · simp only [Act.put, s1, s2, s3, i64_w, i32_w]; rfl
        refine pure_ (i := 18) (N := some 30) (v := ?_) (a' := ?_) q9_19 rfl rfl (any_of HT_.out (by kernel_rfl)) (fun _ _ _ h => h) (Or.inl ⟨by rfl, ?_⟩) ?_ ?_; rotate_left
        · intro w'; go_simp; with_reducible rfl
        rotate_left
        · simp only [Act.put, s1, s2, s3, i64_w, i32_w]; rfl
        refine take_ (i := 19) (N := some 31) (v := ?_) (a' := ?_) q9_20 rfl rfl (take_ofW HT_.out HW_.out (by kernel_rfl)) (fun _ _ _ h => h) (Or.inl ⟨by rfl, ?_⟩) hHeld ?_ ?_; rotate_left
        · rintro w' ⟨s0, s1, s2, s3, s4, s5, s6, s7, s8, s9, s10, s11⟩; go_simp; with_reducible rfl
        rotate_left
        · simp only [Act.put, s1, s2, s3, i64_w, i32_w]; rfl
        refine pure_ (i := 20) (N := some 32) (v := ?_) (a' := ?_) q9_21 rfl rfl (any_of HT_.out (by kernel_rfl)) (fun _ _ _ h => h) (Or.inl ⟨by rfl, ?_⟩) ?_ ?_; rotate_left
        · intro w'; go_simp; with_reducible rfl
        rotate_left
        · simp only [Act.put, s1, s2, s3, i64_w, i32_w]; rfl
        refine pure_ (i := 21) (N := some 33) (v := ?_) (a' := ?_) q9_22 rfl rfl (any_of HT_.out (by kernel_rfl)) (fun _ _ _ h => h) (Or.inl ⟨by rfl, ?_⟩) ?_ ?_; rotate_left
        · intro w'; go_simp; with_reducible rfl
        rotate_left
        · simp only [Act.put, s1, s2, s3, i64_w, i32_w]; rfl
        refine pure_ (i := 22) (N := some 34) (v := ?_) (a' := ?_) q9_23 rfl rfl (any_of HT_.out (by kernel_rfl)) (fun _ _ _ h => h) (Or.inl ⟨by rfl, ?_⟩) ?_ ?_; rotate_left
        · intro w'; go_simp; with_reducible rfl
        rotate_left
        · simp only [Act.put, s1, s2, s3, i64_w, i32_w]; rfl
        refine pure_ (i := 23) (N := some 35) (v := ?_) (a' := ?_) q9_24 rfl rfl (any_of HT_.out (by kernel_rfl)) (fun _ _ _ h => h) (Or.inl ⟨by rfl, ?_⟩) ?_ ?_; rotate_left
        · intro w'; go_simp; with_reducible rfl
        rotate_left
        · simp only [Act.put, s1, s2, s3, i64_w, i32_w]; rfl
        refine done_ (done_of HT_.out (by kernel_rfl)) ?_; try go_wp2
        go_meet
        case rel => exact ⟨_, (decide ((((rd_T62 l1 x5_1).f1).size : Int) > 0)), (by first | rfl | (simp; done) | (simp [*]; done)), H', ⟨by have := HK1.out; first | omega | exact Nat.le_refl _⟩, ⟨by (with_reducible repeat (first | refine bN ?_ _ | refine bD ?_ | refine bA ?_ _)); exact BK296.out⟩, ⟨by repeat (first | (with_reducible first | exact HB.out | apply wA | apply wN | apply wD | refine wS ?_ GE296.out) | exact HB.out)⟩⟩
       replace c10 := Bool.eq_false_iff.mpr c10; subst c10; have H1 : (rundleref08_May.j1 k1 l1 x5_1 false a0_0 a0_1 a0_2) = some r := by rw [if_neg (show ¬ (false = true) by decide)] at H; exact H
       clear H; have H := H1; clear H1; have H' := K0 H; clear H; try go_wp2
       have n0_ := K0 (bD BK296.out); have n1_ := K0 (wD HB.out); clear BK296 HB; have BK296 := n0_; have HB := n1_; clear n0_ n1_; have p297 : 0 ≤ (x5_1 : Int) := oT (by first | (with_reducible assumption) | assumption); have q297 : x5_1 < (l1.length : Int) := oT (by first | (with_reducible assumption) | assumption); obtain ⟨ad297, e297, hx297_0, hx297_1, hx297_2⟩ := at_T62 HR1.out x5_1 p297 q297; have hw297_2 := hx297_2; have hw297_1 := hx297_1; have hw297_0 := hx297_0; (try rw [← Nbq9.out] at hx297_2)
       (try rw [← Nbq9.out] at hw297_2)
       cases e297; replace hx297_0 := (HB.out.cell (bL w _ hx297_0)).trans hx297_0; replace hx297_1 := (HB.out.cell (bL w _ hx297_1)).trans hx297_1; replace hx297_2 := (HB.out.cell (bL w _ hx297_2)).trans hx297_2; replace p297 := eq_true p297; replace q297 := eq_true q297; have p299 : 0 ≤ (x5_1 : Int) := oT (by first | (with_reducible assumption) | assumption); have q299 : x5_1 < (l1.length : Int) := oT (by first | (with_reducible assumption) | assumption); obtain ⟨ad299, e299, hx299_0, hx299_1, hx299_2⟩ := at_T62 HR1.out x5_1 p299 q299; have hw299_2 := hx299_2; have hw299_1 := hx299_1; have hw299_0 := hx299_0; (try rw [← Nbq9.out] at hx299_2)
       (try rw [← Nbq9.out] at hw299_2)
       obtain rfl : ad297 = ad299 := (by injection e299); replace hx299_0 := (HB.out.cell (bL w _ hx299_0)).trans hx299_0; replace hx299_1 := (HB.out.cell (bL w _ hx299_1)).trans hx299_1; replace hx299_2 := (HB.out.cell (bL w _ hx299_2)).trans hx299_2; replace p299 := eq_true p299; replace q299 := eq_true q299; refine start_ (n := 24) (S := fun w' => w'.cell? ⟨gb296, 0, none⟩ = some (.string a0_0) ∧ w'.cell? ⟨gb296, 1, none⟩ = some (.string a0_1) ∧ w'.cell? ⟨gb296, 2, none⟩ = some (.bool a0_2) ∧ w'.cell? (ad297.add ((x5_1).toNat * 3)) = some (.string ((rd_T62 l1 x5_1).f0)) ∧ w'.cell? ⟨(ad297.add ((x5_1).toNat * 3)).block, (ad297.add ((x5_1).toNat * 3)).off + 1, none⟩ = some (.string ((rd_T62 l1 x5_1).f1)) ∧ w'.cell? ⟨(ad297.add ((x5_1).toNat * 3)).block, (ad297.add ((x5_1).toNat * 3)).off + 2, none⟩ = some (.bool false) ∧ w'.cell? (ad297.add ((x5_1).toNat * 3)) = some (.string ((rd_T62 l1 x5_1).f0)) ∧ w'.cell? ⟨(ad297.add ((x5_1).toNat * 3)).block, (ad297.add ((x5_1).toNat * 3)).off + 1, none⟩ = some (.string ((rd_T62 l1 x5_1).f1)) ∧ w'.cell? ⟨(ad297.add ((x5_1).toNat * 3)).block, (ad297.add ((x5_1).toNat * 3)).off + 2, none⟩ = some (.bool false)) (ds := []) q9_0 (by kernel_rfl) rfl rfl ⟨(bC BK296.out 0).trans rfl, (bC BK296.out 1).trans rfl, (bC BK296.out 2).trans rfl, ((HB.out.cell (bL w _ hw297_0)).trans hw297_0), ((HB.out.cell (bL w _ hw297_1)).trans hw297_1), ((HB.out.cell (bL w _ hw297_2)).trans hw297_2), ((HB.out.cell (bL w _ hw299_0)).trans hw299_0), ((HB.out.cell (bL w _ hw299_1)).trans hw299_1), ((HB.out.cell (bL w _ hw299_2)).trans hw299_2)⟩ (fun hHeld => ?_); refine with_tabW rundleref08_May.tab4 rundleref08_May.bits4 (fun HT_ HW_ => ?_)
       generalize wr.drew = w13 at BK296 HB hx297_0 hx297_1 hx297_2 hx299_0 hx299_1 hx299_2 hHeld ⊢; refine pure_ (i := 1) (N := some 13) (v := ?_) (a' := ?_) q9_1 rfl rfl (any_of HT_.out (by kernel_rfl)) (fun _ _ _ h => h) (Or.inl ⟨by rfl, ?_⟩) ?_ ?_; rotate_left
       · intro w'; go_simp; with_reducible rfl
       rotate_left
       · simp only [Act.put, s1, s2, s3, i64_w, i32_w]; rfl
       refine pure_ (i := 2) (N := some 14) (v := ?_) (a' := ?_) q9_2 rfl rfl (any_of HT_.out (by kernel_rfl)) (fun _ _ _ h => h) (Or.inl ⟨by rfl, ?_⟩) ?_ ?_; rotate_left
       · intro w'; go_simp; with_reducible rfl
       rotate_left
       · simp only [Act.put, s1, s2, s3, i64_w, i32_w]; rfl
       refine pure_ (i := 3) (N := some 15) (v := ?_) (a' := ?_) q9_3 rfl rfl (any_of HT_.out (by kernel_rfl)) (fun _ _ _ h => h) (Or.inl ⟨by rfl, ?_⟩) ?_ ?_; rotate_left
       · intro w'; go_simp; with_reducible rfl
       rotate_left
       · simp only [Act.put, s1, s2, s3, i64_w, i32_w]; rfl
       refine pure_ (i := 4) (N := some 16) (v := ?_) (a' := ?_) q9_4 rfl rfl (any_of HT_.out (by kernel_rfl)) (fun _ _ _ h => h) (Or.inl ⟨by rfl, ?_⟩) ?_ ?_; rotate_left
       · intro w'; go_simp; with_reducible rfl
       rotate_left
       · simp only [Act.put, s1, s2, s3, i64_w, i32_w]; rfl
       refine take_ (i := 0) (N := some 12) (v := ?_) (a' := ?_) q9_5 rfl rfl (take_ofW HT_.out HW_.out (by kernel_rfl)) (fun _ _ _ h => h) (Or.inl ⟨by rfl, ?_⟩) hHeld ?_ ?_; rotate_left
       · rintro w' ⟨s0, s1, s2, s3, s4, s5, s6, s7, s8⟩; go_simp; with_reducible rfl
       rotate_left
       · simp only [Act.put, s1, s2, s3, i64_w, i32_w]; rfl
       refine take_ (i := 5) (N := some 17) (v := ?_) (a' := ?_) q9_6 rfl rfl (take_ofW HT_.out HW_.out (by kernel_rfl)) (fun _ _ _ h => h) (Or.inl ⟨by rfl, ?_⟩) hHeld ?_ ?_; rotate_left
       · rintro w' ⟨s0, s1, s2, s3, s4, s5, s6, s7, s8⟩; go_simp; with_reducible rfl
       rotate_left
       · simp only [Act.put, s1, s2, s3, i64_w, i32_w]; rfl
       refine one_ (i := 6) (N := some 18) q9_7 rfl rfl (one_of HT_.out (by kernel_rfl)) (by decide) (fun K hK => ?_); refine goes_ Try.func58 (by kernel_rfl) rfl #[.agg #[.string a0_0, .string a0_1, .bool a0_2], .string ((rd_T62 l1 x5_1).f0)] (by rfl) rfl rfl (by (try simp only [List.map_toArray, List.map_cons, List.map_nil]); first | done | rfl | (simp only [lD, lT]; rfl)) ?_; with_reducible refine (rundleref04_Has.calls k1 a0_0 a0_1 a0_2 ((rd_T62 l1 x5_1).f0) true _ A7.out).mono ?_
       rintro e w14 ⟨rfl, hb⟩; refine ⟨_, rfl, ?_⟩; have n0_ := K0 (bB (g := gb296) (o := .cells #[.string a0_0, .string a0_1, .bool a0_2] 23 (0, 0)) (by (with_reducible repeat (first | refine bN ?_ _ | refine bD ?_ | refine bA ?_ _)); exact BK296.out) hb); have n1_ := K0 (below_step (by repeat (first | (with_reducible first | exact HB.out | apply wA | apply wN | apply wD | refine wS ?_ GE296.out) | exact HB.out)) hb); clear BK296 HB; have BK296 := n0_; have HB := n1_; clear n0_ n1_; (try clear hb)
       (try clear hb2)
       (try clear hk)
       (try clear hi)
       refine hK.out _ _ ⟨(bC BK296.out 0).trans rfl, (bC BK296.out 1).trans rfl, (bC BK296.out 2).trans rfl, ((HB.out.cell (bL w _ hw297_0)).trans hw297_0), ((HB.out.cell (bL w _ hw297_1)).trans hw297_1), ((HB.out.cell (bL w _ hw297_2)).trans hw297_2), ((HB.out.cell (bL w _ hw299_0)).trans hw299_0), ((HB.out.cell (bL w _ hw299_1)).trans hw299_1), ((HB.out.cell (bL w _ hw299_2)).trans hw299_2)⟩ (fun hHeld => ?_); clear hK K; refine norm_ (a' := ?_) ?_ ?_; rotate_left
       · show Act.put _ (some 18) _ = _; simp only [Act.put, s1, s2, s3, i64_w, i32_w]; rfl
       refine pure_ (i := 7) (N := some 19) (v := ?_) (a' := ?_) q9_8 rfl rfl (any_of HT_.out (by kernel_rfl)) (fun _ _ _ h => h) (Or.inl ⟨by rfl, ?_⟩) ?_ ?_; rotate_left
       · intro w'; go_simp; with_reducible rfl
       rotate_left
       · simp only [Act.put, s1, s2, s3, i64_w, i32_w]; rfl
       refine pure_ (i := 8) (N := some 20) (v := ?_) (a' := ?_) q9_9 rfl rfl (any_of HT_.out (by kernel_rfl)) (fun _ _ _ h => h) (Or.inl ⟨by rfl, ?_⟩) ?_ ?_; rotate_left
       · intro w'; go_simp; with_reducible rfl
       rotate_left
       · simp only [Act.put, s1, s2, s3, i64_w, i32_w]; rfl
       refine pure_ (i := 9) (N := some 21) (v := ?_) (a' := ?_) q9_10 rfl rfl (any_of HT_.out (by kernel_rfl)) (fun _ _ _ h => h) (Or.inl ⟨by rfl, ?_⟩) ?_ ?_; rotate_left
       · intro w'; go_simp; with_reducible rfl
       rotate_left
       · simp only [Act.put, s1, s2, s3, i64_w, i32_w]; rfl
       refine pure_ (i := 10) (N := some 22) (v := ?_) (a' := ?_) q9_11 rfl rfl (any_of HT_.out (by kernel_rfl)) (fun _ _ _ h => h) (Or.inl ⟨by rfl, ?_⟩) ?_ ?_; rotate_left
       · intro w'; go_simp; with_reducible rfl
       rotate_left
       · simp only [Act.put, s1, s2, s3, i64_w, i32_w]; rfl
       refine pure_ (i := 11) (N := some 23) (v := ?_) (a' := ?_) q9_12 rfl rfl (any_of HT_.out (by kernel_rfl)) (fun _ _ _ h => h) (Or.inl ⟨by rfl, ?_⟩) ?_ ?_; rotate_left
       · intro w'; go_simp; with_reducible rfl
       rotate_left
       · simp only [Act.put, s1, s2, s3, i64_w, i32_w]; rfl
       refine pure_ (i := 12) (N := some 24) (v := ?_) (a' := ?_) q9_13 rfl rfl (any_of HT_.out (by kernel_rfl)) (fun _ _ _ h => h) (Or.inl ⟨by rfl, ?_⟩) ?_ ?_; rotate_left
       · intro w'; go_simp; with_reducible rfl
       rotate_left
       · simp only [Act.put, s1, s2, s3, i64_w, i32_w]; rfl
       refine take_ (i := 13) (N := some 25) (v := ?_) (a' := ?_) q9_14 rfl rfl (take_ofW HT_.out HW_.out (by kernel_rfl)) (fun _ _ _ h => h) (Or.inl ⟨by rfl, ?_⟩) hHeld ?_ ?_; rotate_left
       · rintro w' ⟨s0, s1, s2, s3, s4, s5, s6, s7, s8⟩; go_simp; with_reducible rfl
       rotate_left
       · simp only [Act.put, s1, s2, s3, i64_w, i32_w]; rfl
       refine pure_ (i := 14) (N := some 26) (v := ?_) (a' := ?_) q9_15 rfl rfl (any_of HT_.out (by kernel_rfl)) (fun _ _ _ h => h) (Or.inl ⟨by rfl, ?_⟩) ?_ ?_; rotate_left
       · intro w'; go_simp; with_reducible rfl
       rotate_left
       · simp only [Act.put, s1, s2, s3, i64_w, i32_w]; rfl
       refine pure_ (i := 15) (N := some 27) (v := undef) (a' := ?_) q9_16 rfl rfl (any_of HT_.out (by kernel_rfl)) (fun _ _ _ h => h) (Or.inr ⟨by rfl, rfl⟩) ?_ ?_; rotate_left
       · simp only [Act.put, s1, s2, s3, i64_w, i32_w]; rfl
       refine pure_ (i := 16) (N := some 28) (v := undef) (a' := ?_) q9_17 rfl rfl (any_of HT_.out (by kernel_rfl)) (fun _ _ _ h => h) (Or.inr ⟨by rfl, rfl⟩) ?_ ?_; rotate_left
       · simp only [Act.put, s1, s2, s3, i64_w, i32_w]; rfl
       refine pure_ (i := 17) (N := some 29) (v := undef) (a' := ?_) q9_18 rfl rfl (any_of HT_.out (by kernel_rfl)) (fun _ _ _ h => h) (Or.inr ⟨by rfl, rfl⟩) ?_ ?_; rotate_left
       · simp only [Act.put, s1, s2, s3, i64_w, i32_w]; rfl
       refine pure_ (i := 18) (N := some 30) (v := undef) (a' := ?_) q9_19 rfl rfl (any_of HT_.out (by kernel_rfl)) (fun _ _ _ h => h) (Or.inr ⟨by rfl, rfl⟩) ?_ ?_; rotate_left
       · simp only [Act.put, s1, s2, s3, i64_w, i32_w]; rfl
       refine pure_ (i := 19) (N := some 31) (v := undef) (a' := ?_) q9_20 rfl rfl (any_of HT_.out (by kernel_rfl)) (fun _ _ _ h => h) (Or.inr ⟨by rfl, rfl⟩) ?_ ?_; rotate_left
       · simp only [Act.put, s1, s2, s3, i64_w, i32_w]; rfl
       refine pure_ (i := 20) (N := some 32) (v := undef) (a' := ?_) q9_21 rfl rfl (any_of HT_.out (by kernel_rfl)) (fun _ _ _ h => h) (Or.inr ⟨by rfl, rfl⟩) ?_ ?_; rotate_left
       · simp only [Act.put, s1, s2, s3, i64_w, i32_w]; rfl
       refine pure_ (i := 21) (N := some 33) (v := undef) (a' := ?_) q9_22 rfl rfl (any_of HT_.out (by kernel_rfl)) (fun _ _ _ h => h) (Or.inr ⟨by rfl, rfl⟩) ?_ ?_; rotate_left
       · simp only [Act.put, s1, s2, s3, i64_w, i32_w]; rfl
       refine pure_ (i := 22) (N := some 34) (v := ?_) (a' := ?_) q9_23 rfl rfl (any_of HT_.out (by kernel_rfl)) (fun _ _ _ h => h) (Or.inl ⟨by rfl, ?_⟩) ?_ ?_; rotate_left
       · intro w'; go_simp; with_reducible rfl
       rotate_left
       · simp only [Act.put, s1, s2, s3, i64_w, i32_w]; rfl
       refine pure_ (i := 23) (N := some 35) (v := ?_) (a' := ?_) q9_24 rfl rfl (any_of HT_.out (by kernel_rfl)) (fun _ _ _ h => h) (Or.inl ⟨by rfl, ?_⟩) ?_ ?_; rotate_left
       · intro w'; go_simp; with_reducible rfl
       rotate_left
       · simp only [Act.put, s1, s2, s3, i64_w, i32_w]; rfl
       refine done_ (done_of HT_.out (by kernel_rfl)) ?_; try go_wp2
       go_meet
       case rel => exact ⟨_, (false), (by first | rfl | (simp; done) | (simp [*]; done)), H', ⟨by have := HK1.out; first | omega | exact Nat.le_refl _⟩, ⟨by (with_reducible repeat (first | refine bN ?_ _ | refine bD ?_ | refine bA ?_ _)); exact BK296.out⟩, ⟨by repeat (first | (with_reducible first | exact HB.out | apply wA | apply wN | apply wD | refine wS ?_ GE296.out) | exact HB.out)⟩⟩
      replace c8 := Bool.eq_false_iff.mpr c8; subst c8; have H1 : (rundleref08_May.j1 k1 l1 x5_1 true a0_0 a0_1 a0_2) = some r := by rw [if_neg (show ¬ (false = true) by decide)] at H; exact H
      clear H; have H := H1; clear H1; have H' := K0 H; clear H; try go_wp2
      have n0_ := K0 (bD BK296.out); have n1_ := K0 (wD HB.out); clear BK296 HB; have BK296 := n0_; have HB := n1_; clear n0_ n1_; have p297 : 0 ≤ (x5_1 : Int) := oT (by first | (with_reducible assumption) | assumption); have q297 : x5_1 < (l1.length : Int) := oT (by first | (with_reducible assumption) | assumption); obtain ⟨ad297, e297, hx297_0, hx297_1, hx297_2⟩ := at_T62 HR1.out x5_1 p297 q297; have hw297_2 := hx297_2; have hw297_1 := hx297_1; have hw297_0 := hx297_0
      cases e297; replace hx297_0 := (HB.out.cell (bL w _ hx297_0)).trans hx297_0; replace hx297_1 := (HB.out.cell (bL w _ hx297_1)).trans hx297_1; replace hx297_2 := (HB.out.cell (bL w _ hx297_2)).trans hx297_2; replace p297 := eq_true p297; replace q297 := eq_true q297; refine start_ (n := 24) (S := fun w' => w'.cell? ⟨gb296, 0, none⟩ = some (.string a0_0) ∧ w'.cell? ⟨gb296, 1, none⟩ = some (.string a0_1) ∧ w'.cell? ⟨gb296, 2, none⟩ = some (.bool a0_2) ∧ w'.cell? (ad297.add ((x5_1).toNat * 3)) = some (.string ((rd_T62 l1 x5_1).f0)) ∧ w'.cell? ⟨(ad297.add ((x5_1).toNat * 3)).block, (ad297.add ((x5_1).toNat * 3)).off + 1, none⟩ = some (.string ((rd_T62 l1 x5_1).f1)) ∧ w'.cell? ⟨(ad297.add ((x5_1).toNat * 3)).block, (ad297.add ((x5_1).toNat * 3)).off + 2, none⟩ = some (.bool ((rd_T62 l1 x5_1).f2))) (ds := []) q9_0 (by kernel_rfl) rfl rfl ⟨(bC BK296.out 0).trans rfl, (bC BK296.out 1).trans rfl, (bC BK296.out 2).trans rfl, ((HB.out.cell (bL w _ hw297_0)).trans hw297_0), ((HB.out.cell (bL w _ hw297_1)).trans hw297_1), ((HB.out.cell (bL w _ hw297_2)).trans hw297_2)⟩ (fun hHeld => ?_); refine with_tabW rundleref08_May.tab4 rundleref08_May.bits4 (fun HT_ HW_ => ?_)
      generalize wr.drew = w15 at BK296 HB hx297_0 hx297_1 hx297_2 hHeld ⊢; refine pure_ (i := 1) (N := some 13) (v := ?_) (a' := ?_) q9_1 rfl rfl (any_of HT_.out (by kernel_rfl)) (fun _ _ _ h => h) (Or.inl ⟨by rfl, ?_⟩) ?_ ?_; rotate_left
      · intro w'; go_simp; with_reducible rfl
      rotate_left
      · simp only [Act.put, s1, s2, s3, i64_w, i32_w]; rfl
      refine pure_ (i := 2) (N := some 14) (v := ?_) (a' := ?_) q9_2 rfl rfl (any_of HT_.out (by kernel_rfl)) (fun _ _ _ h => h) (Or.inl ⟨by rfl, ?_⟩) ?_ ?_; rotate_left
      · intro w'; go_simp; with_reducible rfl
      rotate_left
      · simp only [Act.put, s1, s2, s3, i64_w, i32_w]; rfl
      refine pure_ (i := 3) (N := some 15) (v := ?_) (a' := ?_) q9_3 rfl rfl (any_of HT_.out (by kernel_rfl)) (fun _ _ _ h => h) (Or.inl ⟨by rfl, ?_⟩) ?_ ?_; rotate_left
      · intro w'; go_simp; with_reducible rfl
      rotate_left
      · simp only [Act.put, s1, s2, s3, i64_w, i32_w]; rfl
      refine pure_ (i := 4) (N := some 16) (v := ?_) (a' := ?_) q9_4 rfl rfl (any_of HT_.out (by kernel_rfl)) (fun _ _ _ h => h) (Or.inl ⟨by rfl, ?_⟩) ?_ ?_; rotate_left
      · intro w'; go_simp; with_reducible rfl
      rotate_left
      · simp only [Act.put, s1, s2, s3, i64_w, i32_w]; rfl
      refine take_ (i := 0) (N := some 12) (v := ?_) (a' := ?_) q9_5 rfl rfl (take_ofW HT_.out HW_.out (by kernel_rfl)) (fun _ _ _ h => h) (Or.inl ⟨by rfl, ?_⟩) hHeld ?_ ?_; rotate_left
      · rintro w' ⟨s0, s1, s2, s3, s4, s5⟩; go_simp; with_reducible rfl
      rotate_left
      · simp only [Act.put, s1, s2, s3, i64_w, i32_w]; rfl
      refine take_ (i := 5) (N := some 17) (v := ?_) (a' := ?_) q9_6 rfl rfl (take_ofW HT_.out HW_.out (by kernel_rfl)) (fun _ _ _ h => h) (Or.inl ⟨by rfl, ?_⟩) hHeld ?_ ?_; rotate_left
      · rintro w' ⟨s0, s1, s2, s3, s4, s5⟩; go_simp; with_reducible rfl
      rotate_left
      · simp only [Act.put, s1, s2, s3, i64_w, i32_w]; rfl
      refine one_ (i := 6) (N := some 18) q9_7 rfl rfl (one_of HT_.out (by kernel_rfl)) (by decide) (fun K hK => ?_); refine goes_ Try.func58 (by kernel_rfl) rfl #[.agg #[.string a0_0, .string a0_1, .bool a0_2], .string ((rd_T62 l1 x5_1).f0)] (by rfl) rfl rfl (by (try simp only [List.map_toArray, List.map_cons, List.map_nil]); first | done | rfl | (simp only [lD, lT]; rfl)) ?_; with_reducible refine (rundleref04_Has.calls k1 a0_0 a0_1 a0_2 ((rd_T62 l1 x5_1).f0) false _ A7.out).mono ?_
      rintro e w16 ⟨rfl, hb⟩; refine ⟨_, rfl, ?_⟩; have n0_ := K0 (bB (g := gb296) (o := .cells #[.string a0_0, .string a0_1, .bool a0_2] 23 (0, 0)) (by (with_reducible repeat (first | refine bN ?_ _ | refine bD ?_ | refine bA ?_ _)); exact BK296.out) hb); have n1_ := K0 (below_step (by repeat (first | (with_reducible first | exact HB.out | apply wA | apply wN | apply wD | refine wS ?_ GE296.out) | exact HB.out)) hb); clear BK296 HB; have BK296 := n0_; have HB := n1_; clear n0_ n1_; (try clear hb)
      (try clear hb2)
      (try clear hk)
      (try clear hi)
      refine hK.out _ _ ⟨(bC BK296.out 0).trans rfl, (bC BK296.out 1).trans rfl, (bC BK296.out 2).trans rfl, ((HB.out.cell (bL w _ hw297_0)).trans hw297_0), ((HB.out.cell (bL w _ hw297_1)).trans hw297_1), ((HB.out.cell (bL w _ hw297_2)).trans hw297_2)⟩ (fun hHeld => ?_); clear hK K; refine norm_ (a' := ?_) ?_ ?_; rotate_left
      · show Act.put _ (some 18) _ = _; simp only [Act.put, s1, s2, s3, i64_w, i32_w]; rfl
      refine pure_ (i := 7) (N := some 19) (v := ?_) (a' := ?_) q9_8 rfl rfl (any_of HT_.out (by kernel_rfl)) (fun _ _ _ h => h) (Or.inl ⟨by rfl, ?_⟩) ?_ ?_; rotate_left
      · intro w'; go_simp; with_reducible rfl
      rotate_left
      · simp only [Act.put, s1, s2, s3, i64_w, i32_w]; rfl
      refine pure_ (i := 8) (N := some 20) (v := ?_) (a' := ?_) q9_9 rfl rfl (any_of HT_.out (by kernel_rfl)) (fun _ _ _ h => h) (Or.inl ⟨by rfl, ?_⟩) ?_ ?_; rotate_left
      · intro w'; go_simp; with_reducible rfl
      rotate_left
      · simp only [Act.put, s1, s2, s3, i64_w, i32_w]; rfl
      refine pure_ (i := 9) (N := some 21) (v := undef) (a' := ?_) q9_10 rfl rfl (any_of HT_.out (by kernel_rfl)) (fun _ _ _ h => h) (Or.inr ⟨by rfl, rfl⟩) ?_ ?_; rotate_left
      · simp only [Act.put, s1, s2, s3, i64_w, i32_w]; rfl
      refine pure_ (i := 10) (N := some 22) (v := undef) (a' := ?_) q9_11 rfl rfl (any_of HT_.out (by kernel_rfl)) (fun _ _ _ h => h) (Or.inr ⟨by rfl, rfl⟩) ?_ ?_; rotate_left
      · simp only [Act.put, s1, s2, s3, i64_w, i32_w]; rfl
      refine pure_ (i := 11) (N := some 23) (v := undef) (a' := ?_) q9_12 rfl rfl (any_of HT_.out (by kernel_rfl)) (fun _ _ _ h => h) (Or.inr ⟨by rfl, rfl⟩) ?_ ?_; rotate_left
      · simp only [Act.put, s1, s2, s3, i64_w, i32_w]; rfl
      refine pure_ (i := 12) (N := some 24) (v := undef) (a' := ?_) q9_13 rfl rfl (any_of HT_.out (by kernel_rfl)) (fun _ _ _ h => h) (Or.inr ⟨by rfl, rfl⟩) ?_ ?_; rotate_left
      · simp only [Act.put, s1, s2, s3, i64_w, i32_w]; rfl
      refine pure_ (i := 13) (N := some 25) (v := undef) (a' := ?_) q9_14 rfl rfl (any_of HT_.out (by kernel_rfl)) (fun _ _ _ h => h) (Or.inr ⟨by rfl, rfl⟩) ?_ ?_; rotate_left
      · simp only [Act.put, s1, s2, s3, i64_w, i32_w]; rfl
      refine pure_ (i := 14) (N := some 26) (v := undef) (a' := ?_) q9_15 rfl rfl (any_of HT_.out (by kernel_rfl)) (fun _ _ _ h => h) (Or.inr ⟨by rfl, rfl⟩) ?_ ?_; rotate_left
      · simp only [Act.put, s1, s2, s3, i64_w, i32_w]; rfl
      refine pure_ (i := 15) (N := some 27) (v := undef) (a' := ?_) q9_16 rfl rfl (any_of HT_.out (by kernel_rfl)) (fun _ _ _ h => h) (Or.inr ⟨by rfl, rfl⟩) ?_ ?_; rotate_left
      · simp only [Act.put, s1, s2, s3, i64_w, i32_w]; rfl
      refine pure_ (i := 16) (N := some 28) (v := undef) (a' := ?_) q9_17 rfl rfl (any_of HT_.out (by kernel_rfl)) (fun _ _ _ h => h) (Or.inr ⟨by rfl, rfl⟩) ?_ ?_; rotate_left
      · simp only [Act.put, s1, s2, s3, i64_w, i32_w]; rfl
      refine pure_ (i := 17) (N := some 29) (v := undef) (a' := ?_) q9_18 rfl rfl (any_of HT_.out (by kernel_rfl)) (fun _ _ _ h => h) (Or.inr ⟨by rfl, rfl⟩) ?_ ?_; rotate_left
      · simp only [Act.put, s1, s2, s3, i64_w, i32_w]; rfl
      refine pure_ (i := 18) (N := some 30) (v := undef) (a' := ?_) q9_19 rfl rfl (any_of HT_.out (by kernel_rfl)) (fun _ _ _ h => h) (Or.inr ⟨by rfl, rfl⟩) ?_ ?_; rotate_left
      · simp only [Act.put, s1, s2, s3, i64_w, i32_w]; rfl
      refine pure_ (i := 19) (N := some 31) (v := undef) (a' := ?_) q9_20 rfl rfl (any_of HT_.out (by kernel_rfl)) (fun _ _ _ h => h) (Or.inr ⟨by rfl, rfl⟩) ?_ ?_; rotate_left
      · simp only [Act.put, s1, s2, s3, i64_w, i32_w]; rfl
      refine pure_ (i := 20) (N := some 32) (v := undef) (a' := ?_) q9_21 rfl rfl (any_of HT_.out (by kernel_rfl)) (fun _ _ _ h => h) (Or.inr ⟨by rfl, rfl⟩) ?_ ?_; rotate_left
      · simp only [Act.put, s1, s2, s3, i64_w, i32_w]; rfl
      refine pure_ (i := 21) (N := some 33) (v := undef) (a' := ?_) q9_22 rfl rfl (any_of HT_.out (by kernel_rfl)) (fun _ _ _ h => h) (Or.inr ⟨by rfl, rfl⟩) ?_ ?_; rotate_left
      · simp only [Act.put, s1, s2, s3, i64_w, i32_w]; rfl
      refine pure_ (i := 22) (N := some 34) (v := undef) (a' := ?_) q9_23 rfl rfl (any_of HT_.out (by kernel_rfl)) (fun _ _ _ h => h) (Or.inr ⟨by rfl, rfl⟩) ?_ ?_; rotate_left
      · simp only [Act.put, s1, s2, s3, i64_w, i32_w]; rfl
      refine pure_ (i := 23) (N := some 35) (v := ?_) (a' := ?_) q9_24 rfl rfl (any_of HT_.out (by kernel_rfl)) (fun _ _ _ h => h) (Or.inl ⟨by rfl, ?_⟩) ?_ ?_; rotate_left
      · intro w'; go_simp; with_reducible rfl
      rotate_left
      · simp only [Act.put, s1, s2, s3, i64_w, i32_w]; rfl
      refine done_ (done_of HT_.out (by kernel_rfl)) ?_; try go_wp2
      go_meet
      case rel => exact ⟨_, (true), (by first | rfl | (simp; done) | (simp [*]; done)), H', ⟨by have := HK1.out; first | omega | exact Nat.le_refl _⟩, ⟨by (with_reducible repeat (first | refine bN ?_ _ | refine bD ?_ | refine bA ?_ _)); exact BK296.out⟩, ⟨by repeat (first | (with_reducible first | exact HB.out | apply wA | apply wN | apply wD | refine wS ?_ GE296.out) | exact HB.out)⟩⟩
     rw [if_neg c6] at H; exact absurd H (by simp)
    case rest =>
     clear HC5; try clear c1
     try clear p2
     try clear q2
     try clear hx2
     try clear c5
     try clear c6
     try clear c8
     try clear q9
     try clear c10
     try clear hx297_0
     try clear hx297_1
     try clear hx297_2
     try clear hx299_0
     try clear hx299_1
     try clear hx299_2
     try clear p297
     try clear p299
     try clear q297
     try clear q299
     obtain ⟨kq, x35_4, rfl, HA, HJ4, BK296, HB⟩ := hcut
     cases kq with
     | zero => exact absurd HA.out (by simp [rundleref08_May.j1])
     | succ kj4 =>
      have H := HA.out; clear HA; simp only [rundleref08_May.j1] at H; by_cases c17 : x35_4 = true
      ·
       subst c17; have H1 : (some false) = some r := by rw [if_pos rfl] at H; exact H
       clear H; have H := H1; clear H1; obtain rfl := Option.some.inj H; go_wp2
       go_ret; exact ⟨by first | rfl | (simp [errW_none, errW_some] <;> rfl) | (simp [*, errW_none, errW_some] <;> rfl), by repeat (first | (with_reducible first | exact HB.out | apply wA | apply wN | apply wD | refine wS ?_ GE296.out) | exact HB.out)⟩
      replace c17 := Bool.eq_false_iff.mpr c17; subst c17; have H1 : (if x5_1 > 0 then (if 0 ≤ (wrap64 (x5_1 - 1)) then (if (wrap64 (x5_1 - 1)) < (l1.length : Int) then (if 0 ≤ x5_1 then (if x5_1 < (l1.length : Int) then ((rundleref04_Less.f kj4 ((rd_T62 l1 (wrap64 (x5_1 - 1))).f0) ((rd_T62 l1 x5_1).f0)).bind fun t303 => (if t303 = true then (rundleref08_May.l0 kj4 l1 (wrap64 (x5_1 + 1)) a0_0 a0_1 a0_2) else (some false))) else (none)) else (none)) else (none)) else (none)) else (rundleref08_May.l0 kj4 l1 (wrap64 (x5_1 + 1)) a0_0 a0_1 a0_2)) = some r := by rw [if_neg (show ¬ (false = true) by decide)] at H; exact H
      clear H; have H := H1; clear H1; by_cases c18 : x5_1 > 0
      ·
       rw [if_pos c18] at H; have c18b0 : decide (0 < x5_1) = true := dT c18; clear c18; obtain ⟨ji19, hji19⟩ : ∃ j_ : Int, (wrap64 (x5_1 - 1)) = j_ := ⟨_, rfl⟩; replace H : (if 0 ≤ (ji19) then (if (ji19) < (l1.length : Int) then (if 0 ≤ x5_1 then (if x5_1 < (l1.length : Int) then ((rundleref04_Less.f kj4 ((rd_T62 l1 (ji19)).f0) ((rd_T62 l1 x5_1).f0)).bind fun t303 => (if t303 = true then (rundleref08_May.l0 kj4 l1 (wrap64 (x5_1 + 1)) a0_0 a0_1 a0_2) else (some false))) else (none)) else (none)) else (none)) else (none)) = some r := by first | (rw [hji19] at H; exact H) | (simp only [hji19] at H ⊢; exact H)
       have hji19w : (IntKind.i64.wrap (x5_1 - 1)) = ji19 := (i64_w _).trans hji19; by_cases c20 : 0 ≤ (ji19)
       ·
        rw [if_pos c20] at H; have c20b0 : decide (0 ≤ (ji19)) = true := dT c20; clear c20; by_cases c21 : (ji19) < (l1.length : Int)
        ·
         rw [if_pos c21] at H; have c21b0 : decide ((ji19) < (l1.length : Int)) = true := dT c21; clear c21; by_cases c22 : 0 ≤ x5_1
         ·
          rw [if_pos c22] at H; have c22b0 : decide (0 ≤ x5_1) = true := dT c22; clear c22; by_cases c23 : x5_1 < (l1.length : Int)
          ·
           rw [if_pos c23] at H; have c23b0 : decide (x5_1 < (l1.length : Int)) = true := dT c23; clear c23; replace H := Option.bind_eq_some_iff.mp H; obtain ⟨t303, A240, H⟩ := H; replace H : (if t303 = true then (rundleref08_May.l0 kj4 l1 (wrap64 (x5_1 + 1)) a0_0 a0_1 a0_2) else (some false)) = some r := H; have A24 := K0 A240; clear A240; by_cases c25 : t303 = true
           ·
            subst c25; have H1 : (rundleref08_May.l0 kj4 l1 (wrap64 (x5_1 + 1)) a0_0 a0_1 a0_2) = some r := by rw [if_pos rfl] at H; exact H
            clear H; have H := H1; clear H1; have H' := K0 H; clear H; try go_wp2
            have n0_ := K0 (bD BK296.out); have n1_ := K0 (wD HB.out); clear BK296 HB; have BK296 := n0_; have HB := n1_; clear n0_ n1_; have p301 : 0 ≤ ((ji19) : Int) := oT (by first | (with_reducible assumption) | assumption); have q301 : (ji19) < (l1.length : Int) := oT (by first | (with_reducible assumption) | assumption); obtain ⟨ad301, e301, hx301_0, hx301_1, hx301_2⟩ := at_T62 HR1.out (ji19) p301 q301; have hw301_2 := hx301_2; have hw301_1 := hx301_1; have hw301_0 := hx301_0
            cases e301; replace hx301_0 := (HB.out.cell (bL w _ hx301_0)).trans hx301_0; replace hx301_1 := (HB.out.cell (bL w _ hx301_1)).trans hx301_1; replace hx301_2 := (HB.out.cell (bL w _ hx301_2)).trans hx301_2; replace p301 := eq_true p301; replace q301 := eq_true q301; have p302 : 0 ≤ (x5_1 : Int) := oT (by first | (with_reducible assumption) | assumption); have q302 : x5_1 < (l1.length : Int) := oT (by first | (with_reducible assumption) | assumption); obtain ⟨ad302, e302, hx302_0, hx302_1, hx302_2⟩ := at_T62 HR1.out x5_1 p302 q302; have hw302_2 := hx302_2; have hw302_1 := hx302_1; have hw302_0 := hx302_0; obtain rfl : ad301 = ad302 := (by injection e302); replace hx302_0 := (HB.out.cell (bL w _ hx302_0)).trans hx302_0; replace hx302_1 := (HB.out.cell (bL w _ hx302_1)).trans hx302_1; replace hx302_2 := (HB.out.cell (bL w _ hx302_2)).trans hx302_2; replace p302 := eq_true p302; replace q302 := eq_true q302; refine start_ (n := 17) (S := fun w' => w'.cell? (ad301.add (((ji19)).toNat * 3)) = some (.string ((rd_T62 l1 (ji19)).f0)) ∧ w'.cell? ⟨(ad301.add (((ji19)).toNat * 3)).block, (ad301.add (((ji19)).toNat * 3)).off + 1, none⟩ = some (.string ((rd_T62 l1 (ji19)).f1)) ∧ w'.cell? ⟨(ad301.add (((ji19)).toNat * 3)).block, (ad301.add (((ji19)).toNat * 3)).off + 2, none⟩ = some (.bool ((rd_T62 l1 (ji19)).f2)) ∧ w'.cell? (ad301.add ((x5_1).toNat * 3)) = some (.string ((rd_T62 l1 x5_1).f0)) ∧ w'.cell? ⟨(ad301.add ((x5_1).toNat * 3)).block, (ad301.add ((x5_1).toNat * 3)).off + 1, none⟩ = some (.string ((rd_T62 l1 x5_1).f1)) ∧ w'.cell? ⟨(ad301.add ((x5_1).toNat * 3)).block, (ad301.add ((x5_1).toNat * 3)).off + 2, none⟩ = some (.bool ((rd_T62 l1 x5_1).f2))) (ds := []) q9_25 (by kernel_rfl) rfl rfl ⟨((HB.out.cell (bL w _ hw301_0)).trans hw301_0), ((HB.out.cell (bL w _ hw301_1)).trans hw301_1), ((HB.out.cell (bL w _ hw301_2)).trans hw301_2), ((HB.out.cell (bL w _ hw302_0)).trans hw302_0), ((HB.out.cell (bL w _ hw302_1)).trans hw302_1), ((HB.out.cell (bL w _ hw302_2)).trans hw302_2)⟩ (fun hHeld => ?_); refine with_tabW rundleref08_May.tab6 rundleref08_May.bits6 (fun HT_ HW_ => ?_)
            generalize wc.drew = w26 at BK296 HB hx301_0 hx301_1 hx301_2 hx302_0 hx302_1 hx302_2 hHeld ⊢; refine pure_ (i := 0) (N := some 36) (v := ?_) (a' := ?_) q9_26 rfl rfl (any_of HT_.out (by kernel_rfl)) (fun _ _ _ h => h) (Or.inl ⟨by rfl, ?_⟩) ?_ ?_; rotate_left
            · intro w'; go_simp; with_reducible rfl
            rotate_left
            · simp only [Act.put, s1, s2, s3, i64_w, i32_w]; rfl
            refine pure_ (i := 1) (N := some 37) (v := ?_) (a' := ?_) q9_27 rfl rfl (any_of HT_.out (by kernel_rfl)) (fun _ _ _ h => h) (Or.inl ⟨by rfl, ?_⟩) ?_ ?_; rotate_left
            · intro w'; go_simp; with_reducible rfl
            rotate_left
            · simp only [Act.put, s1, s2, s3, i64_w, i32_w]; rfl
            refine pure_ (i := 2) (N := some 38) (v := ?_) (a' := ?_) q9_28 rfl rfl (any_of HT_.out (by kernel_rfl)) (fun _ _ _ h => h) (Or.inl ⟨by rfl, ?_⟩) ?_ ?_; rotate_left
            · intro w'; go_simp; with_reducible rfl
            rotate_left
            · simp only [Act.put, s1, s2, s3, i64_w, i32_w]; rfl
            refine pure_ (i := 3) (N := some 39) (v := ?_) (a' := ?_) q9_29 rfl rfl (any_of HT_.out (by kernel_rfl)) (fun _ _ _ h => h) (Or.inl ⟨by rfl, ?_⟩) ?_ ?_; rotate_left
            · intro w'; go_simp; with_reducible rfl
            rotate_left
            · simp only [Act.put, s1, s2, s3, i64_w, i32_w]; rfl
            refine pure_ (i := 4) (N := some 40) (v := ?_) (a' := ?_) q9_30 rfl rfl (any_of HT_.out (by kernel_rfl)) (fun _ _ _ h => h) (Or.inl ⟨by rfl, ?_⟩) ?_ ?_; rotate_left
            · intro w'; go_simp; with_reducible rfl
            rotate_left
            · simp only [Act.put, s1, s2, s3, i64_w, i32_w]; rfl
            refine pure_ (i := 5) (N := some 41) (v := ?_) (a' := ?_) q9_31 rfl rfl (any_of HT_.out (by kernel_rfl)) (fun _ _ _ h => h) (Or.inl ⟨by rfl, ?_⟩) ?_ ?_; rotate_left
            · intro w'; go_simp; with_reducible rfl
            rotate_left
            · simp only [Act.put, s1, s2, s3, i64_w, i32_w]; rfl
            refine pure_ (i := 6) (N := some 42) (v := ?_) (a' := ?_) q9_32 rfl rfl (any_of HT_.out (by kernel_rfl)) (fun _ _ _ h => h) (Or.inl ⟨by rfl, ?_⟩) ?_ ?_; rotate_left
            · intro w'; go_simp; with_reducible rfl
            rotate_left
            · simp only [Act.put, s1, s2, s3, i64_w, i32_w]; rfl
            refine pure_ (i := 7) (N := some 43) (v := ?_) (a' := ?_) q9_33 rfl rfl (any_of HT_.out (by kernel_rfl)) (fun _ _ _ h => h) (Or.inl ⟨by rfl, ?_⟩) ?_ ?_; rotate_left
            · intro w'; go_simp; with_reducible rfl
            rotate_left
            · simp only [Act.put, s1, s2, s3, i64_w, i32_w]; rfl
            refine pure_ (i := 9) (N := some 45) (v := ?_) (a' := ?_) q9_34 rfl rfl (any_of HT_.out (by kernel_rfl)) (fun _ _ _ h => h) (Or.inl ⟨by rfl, ?_⟩) ?_ ?_; rotate_left
            · intro w'; go_simp; with_reducible rfl
            rotate_left
            · simp only [Act.put, s1, s2, s3, i64_w, i32_w]; rfl
            refine pure_ (i := 10) (N := some 46) (v := ?_) (a' := ?_) q9_35 rfl rfl (any_of HT_.out (by kernel_rfl)) (fun _ _ _ h => h) (Or.inl ⟨by rfl, ?_⟩) ?_ ?_; rotate_left
            · intro w'; go_simp; with_reducible rfl
            rotate_left
            · simp only [Act.put, s1, s2, s3, i64_w, i32_w]; rfl
            refine pure_ (i := 11) (N := some 47) (v := ?_) (a' := ?_) q9_36 rfl rfl (any_of HT_.out (by kernel_rfl)) (fun _ _ _ h => h) (Or.inl ⟨by rfl, ?_⟩) ?_ ?_; rotate_left
            · intro w'; go_simp; with_reducible rfl
            rotate_left
            · simp only [Act.put, s1, s2, s3, i64_w, i32_w]; rfl
            refine pure_ (i := 12) (N := some 48) (v := ?_) (a' := ?_) q9_37 rfl rfl (any_of HT_.out (by kernel_rfl)) (fun _ _ _ h => h) (Or.inl ⟨by rfl, ?_⟩) ?_ ?_; rotate_left
            · intro w'; go_simp; with_reducible rfl
            rotate_left
            · simp only [Act.put, s1, s2, s3, i64_w, i32_w]; rfl
            refine take_ (i := 8) (N := some 44) (v := ?_) (a' := ?_) q9_38 rfl rfl (take_ofW HT_.out HW_.out (by kernel_rfl)) (fun _ _ _ h => h) (Or.inl ⟨by rfl, ?_⟩) hHeld ?_ ?_; rotate_left
            · rintro w' ⟨s0, s1, s2, s3, s4, s5⟩; go_simp; with_reducible rfl
            rotate_left
            · simp only [Act.put, s1, s2, s3, i64_w, i32_w]; rfl
            refine take_ (i := 13) (N := some 49) (v := ?_) (a' := ?_) q9_39 rfl rfl (take_ofW HT_.out HW_.out (by kernel_rfl)) (fun _ _ _ h => h) (Or.inl ⟨by rfl, ?_⟩) hHeld ?_ ?_; rotate_left
            · rintro w' ⟨s0, s1, s2, s3, s4, s5⟩; go_simp; with_reducible rfl
            rotate_left
            · simp only [Act.put, s1, s2, s3, i64_w, i32_w]; rfl
            refine one_ (i := 14) (N := some 50) q9_40 rfl rfl (one_of HT_.out (by kernel_rfl)) (by decide) (fun K hK => ?_); refine goes_ Try.func59 (by kernel_rfl) rfl #[.string ((rd_T62 l1 (ji19)).f0), .string ((rd_T62 l1 x5_1).f0)] (by rfl) rfl rfl (by (try simp only [List.map_toArray, List.map_cons, List.map_nil]); first | done | (simp only [hji19]; rfl) | rfl | (simp only [lD, lT]; rfl)) ?_; with_reducible refine (rundleref04_Less.calls kj4 ((rd_T62 l1 (ji19)).f0) ((rd_T62 l1 x5_1).f0) true _ A24.out).mono ?_
            rintro e w' ⟨rfl, ⟨nd, rfl⟩⟩; refine ⟨_, rfl, ?_⟩; refine hK.out _ _ ⟨((HB.out.cell (bL w _ hw301_0)).trans hw301_0), ((HB.out.cell (bL w _ hw301_1)).trans hw301_1), ((HB.out.cell (bL w _ hw301_2)).trans hw301_2), ((HB.out.cell (bL w _ hw302_0)).trans hw302_0), ((HB.out.cell (bL w _ hw302_1)).trans hw302_1), ((HB.out.cell (bL w _ hw302_2)).trans hw302_2)⟩ (fun hHeld => ?_); clear hK K; refine norm_ (a' := ?_) ?_ ?_; rotate_left
            · show Act.put _ (some 50) _ = _; simp only [Act.put, s1, s2, s3, i64_w, i32_w]; rfl
            refine pure_ (i := 15) (N := some 51) (v := ?_) (a' := ?_) q9_41 rfl rfl (any_of HT_.out (by kernel_rfl)) (fun _ _ _ h => h) (Or.inl ⟨by rfl, ?_⟩) ?_ ?_; rotate_left
            · intro w'; go_simp; with_reducible rfl
            rotate_left
            · simp only [Act.put, s1, s2, s3, i64_w, i32_w]; rfl
            refine pure_ (i := 16) (N := some 52) (v := ?_) (a' := ?_) q9_42 rfl rfl (any_of HT_.out (by kernel_rfl)) (fun _ _ _ h => h) (Or.inl ⟨by rfl, ?_⟩) ?_ ?_; rotate_left
            · intro w'; go_simp; with_reducible rfl
            rotate_left
            · simp only [Act.put, s1, s2, s3, i64_w, i32_w]; rfl
            refine done_ (done_of HT_.out (by kernel_rfl)) ?_; try go_wp2
            go_roundg kj4
            case measure => have := HK1.out; have := HJ4.out; omega
            case rel => exact ⟨(wrap64 (x5_1 + 1)), (by first | rfl | (simp; done) | (simp [*]; done)), H', ⟨by have := HK1.out; have := HJ4.out; omega⟩, ⟨by (with_reducible repeat (first | refine bN ?_ _ | refine bD ?_ | refine bA ?_ _)); exact BK296.out⟩, ⟨by repeat (first | (with_reducible first | exact HB.out | apply wA | apply wN | apply wD | refine wS ?_ GE296.out) | exact HB.out)⟩⟩
           replace c25 := Bool.eq_false_iff.mpr c25; subst c25; have H1 : (some false) = some r := by rw [if_neg (show ¬ (false = true) by decide)] at H; exact H
           clear H; have H := H1; clear H1; obtain rfl := Option.some.inj H; try go_wp2
           have n0_ := K0 (bD BK296.out); have n1_ := K0 (wD HB.out); clear BK296 HB; have BK296 := n0_; have HB := n1_; clear n0_ n1_; have p301 : 0 ≤ ((ji19) : Int) := oT (by first | (with_reducible assumption) | assumption); have q301 : (ji19) < (l1.length : Int) := oT (by first | (with_reducible assumption) | assumption); obtain ⟨ad301, e301, hx301_0, hx301_1, hx301_2⟩ := at_T62 HR1.out (ji19) p301 q301; have hw301_2 := hx301_2; have hw301_1 := hx301_1; have hw301_0 := hx301_0
           cases e301; replace hx301_0 := (HB.out.cell (bL w _ hx301_0)).trans hx301_0; replace hx301_1 := (HB.out.cell (bL w _ hx301_1)).trans hx301_1; replace hx301_2 := (HB.out.cell (bL w _ hx301_2)).trans hx301_2; replace p301 := eq_true p301; replace q301 := eq_true q301; have p302 : 0 ≤ (x5_1 : Int) := oT (by first | (with_reducible assumption) | assumption); have q302 : x5_1 < (l1.length : Int) := oT (by first | (with_reducible assumption) | assumption); obtain ⟨ad302, e302, hx302_0, hx302_1, hx302_2⟩ := at_T62 HR1.out x5_1 p302 q302; have hw302_2 := hx302_2; have hw302_1 := hx302_1; have hw302_0 := hx302_0; obtain rfl : ad301 = ad302 := (by injection e302); replace hx302_0 := (HB.out.cell (bL w _ hx302_0)).trans hx302_0; replace hx302_1 := (HB.out.cell (bL w _ hx302_1)).trans hx302_1; replace hx302_2 := (HB.out.cell (bL w _ hx302_2)).trans hx302_2; replace p302 := eq_true p302; replace q302 := eq_true q302; refine start_ (n := 17) (S := fun w' => w'.cell? (ad301.add (((ji19)).toNat * 3)) = some (.string ((rd_T62 l1 (ji19)).f0)) ∧ w'.cell? ⟨(ad301.add (((ji19)).toNat * 3)).block, (ad301.add (((ji19)).toNat * 3)).off + 1, none⟩ = some (.string ((rd_T62 l1 (ji19)).f1)) ∧ w'.cell? ⟨(ad301.add (((ji19)).toNat * 3)).block, (ad301.add (((ji19)).toNat * 3)).off + 2, none⟩ = some (.bool ((rd_T62 l1 (ji19)).f2)) ∧ w'.cell? (ad301.add ((x5_1).toNat * 3)) = some (.string ((rd_T62 l1 x5_1).f0)) ∧ w'.cell? ⟨(ad301.add ((x5_1).toNat * 3)).block, (ad301.add ((x5_1).toNat * 3)).off + 1, none⟩ = some (.string ((rd_T62 l1 x5_1).f1)) ∧ w'.cell? ⟨(ad301.add ((x5_1).toNat * 3)).block, (ad301.add ((x5_1).toNat * 3)).off + 2, none⟩ = some (.bool ((rd_T62 l1 x5_1).f2))) (ds := []) q9_25 (by kernel_rfl) rfl rfl ⟨((HB.out.cell (bL w _ hw301_0)).trans hw301_0), ((HB.out.cell (bL w _ hw301_1)).trans hw301_1), ((HB.out.cell (bL w _ hw301_2)).trans hw301_2), ((HB.out.cell (bL w _ hw302_0)).trans hw302_0), ((HB.out.cell (bL w _ hw302_1)).trans hw302_1), ((HB.out.cell (bL w _ hw302_2)).trans hw302_2)⟩ (fun hHeld => ?_); refine with_tabW rundleref08_May.tab6 rundleref08_May.bits6 (fun HT_ HW_ => ?_)
           generalize wc.drew = w27 at BK296 HB hx301_0 hx301_1 hx301_2 hx302_0 hx302_1 hx302_2 hHeld ⊢; refine pure_ (i := 0) (N := some 36) (v := ?_) (a' := ?_) q9_26 rfl rfl (any_of HT_.out (by kernel_rfl)) (fun _ _ _ h => h) (Or.inl ⟨by rfl, ?_⟩) ?_ ?_; rotate_left
           · intro w'; go_simp; with_reducible rfl
           rotate_left
           · simp only [Act.put, s1, s2, s3, i64_w, i32_w]; rfl
           refine pure_ (i := 1) (N := some 37) (v := ?_) (a' := ?_) q9_27 rfl rfl (any_of HT_.out (by kernel_rfl)) (fun _ _ _ h => h) (Or.inl ⟨by rfl, ?_⟩) ?_ ?_; rotate_left
           · intro w'; go_simp; with_reducible rfl
           rotate_left
           · simp only [Act.put, s1, s2, s3, i64_w, i32_w]; rfl
           refine pure_ (i := 2) (N := some 38) (v := ?_) (a' := ?_) q9_28 rfl rfl (any_of HT_.out (by kernel_rfl)) (fun _ _ _ h => h) (Or.inl ⟨by rfl, ?_⟩) ?_ ?_; rotate_left
           · intro w'; go_simp; with_reducible rfl
           rotate_left
           · simp only [Act.put, s1, s2, s3, i64_w, i32_w]; rfl
           refine pure_ (i := 3) (N := some 39) (v := ?_) (a' := ?_) q9_29 rfl rfl (any_of HT_.out (by kernel_rfl)) (fun _ _ _ h => h) (Or.inl ⟨by rfl, ?_⟩) ?_ ?_; rotate_left
           · intro w'; go_simp; with_reducible rfl
           rotate_left
           · simp only [Act.put, s1, s2, s3, i64_w, i32_w]; rfl
           refine pure_ (i := 4) (N := some 40) (v := ?_) (a' := ?_) q9_30 rfl rfl (any_of HT_.out (by kernel_rfl)) (fun _ _ _ h => h) (Or.inl ⟨by rfl, ?_⟩) ?_ ?_; rotate_left
           · intro w'; go_simp; with_reducible rfl
           rotate_left
           · simp only [Act.put, s1, s2, s3, i64_w, i32_w]; rfl
           refine pure_ (i := 5) (N := some 41) (v := ?_) (a' := ?_) q9_31 rfl rfl (any_of HT_.out (by kernel_rfl)) (fun _ _ _ h => h) (Or.inl ⟨by rfl, ?_⟩) ?_ ?_; rotate_left
           · intro w'; go_simp; with_reducible rfl
           rotate_left
           · simp only [Act.put, s1, s2, s3, i64_w, i32_w]; rfl
           refine pure_ (i := 6) (N := some 42) (v := ?_) (a' := ?_) q9_32 rfl rfl (any_of HT_.out (by kernel_rfl)) (fun _ _ _ h => h) (Or.inl ⟨by rfl, ?_⟩) ?_ ?_; rotate_left
           · intro w'; go_simp; with_reducible rfl
           rotate_left
           · simp only [Act.put, s1, s2, s3, i64_w, i32_w]; rfl
           refine pure_ (i := 7) (N := some 43) (v := ?_) (a' := ?_) q9_33 rfl rfl (any_of HT_.out (by kernel_rfl)) (fun _ _ _ h => h) (Or.inl ⟨by rfl, ?_⟩) ?_ ?_; rotate_left
           · intro w'; go_simp; with_reducible rfl
           rotate_left
           · simp only [Act.put, s1, s2, s3, i64_w, i32_w]; rfl
           refine pure_ (i := 9) (N := some 45) (v := ?_) (a' := ?_) q9_34 rfl rfl (any_of HT_.out (by kernel_rfl)) (fun _ _ _ h => h) (Or.inl ⟨by rfl, ?_⟩) ?_ ?_; rotate_left
           · intro w'; go_simp; with_reducible rfl
           rotate_left
           · simp only [Act.put, s1, s2, s3, i64_w, i32_w]; rfl
           refine pure_ (i := 10) (N := some 46) (v := ?_) (a' := ?_) q9_35 rfl rfl (any_of HT_.out (by kernel_rfl)) (fun _ _ _ h => h) (Or.inl ⟨by rfl, ?_⟩) ?_ ?_; rotate_left
           · intro w'; go_simp; with_reducible rfl
           rotate_left
           · simp only [Act.put, s1, s2, s3, i64_w, i32_w]; rfl
           refine pure_ (i := 11) (N := some 47) (v := ?_) (a' := ?_) q9_36 rfl rfl (any_of HT_.out (by kernel_rfl)) (fun _ _ _ h => h) (Or.inl ⟨by rfl, ?_⟩) ?_ ?_; rotate_left
           · intro w'; go_simp; with_reducible rfl
           rotate_left
           · simp only [Act.put, s1, s2, s3, i64_w, i32_w]; rfl
           refine pure_ (i := 12) (N := some 48) (v := ?_) (a' := ?_) q9_37 rfl rfl (any_of HT_.out (by kernel_rfl)) (fun _ _ _ h => h) (Or.inl ⟨by rfl, ?_⟩) ?_ ?_; rotate_left
           · intro w'; go_simp; with_reducible rfl
           rotate_left
           · simp only [Act.put, s1, s2, s3, i64_w, i32_w]; rfl
           refine take_ (i := 8) (N := some 44) (v := ?_) (a' := ?_) q9_38 rfl rfl (take_ofW HT_.out HW_.out (by kernel_rfl)) (fun _ _ _ h => h) (Or.inl ⟨by rfl, ?_⟩) hHeld ?_ ?_; rotate_left
           · rintro w' ⟨s0, s1, s2, s3, s4, s5⟩; go_simp; with_reducible rfl
           rotate_left
           · simp only [Act.put, s1, s2, s3, i64_w, i32_w]; rfl
           refine take_ (i := 13) (N := some 49) (v := ?_) (a' := ?_) q9_39 rfl rfl (take_ofW HT_.out HW_.out (by kernel_rfl)) (fun _ _ _ h => h) (Or.inl ⟨by rfl, ?_⟩) hHeld ?_ ?_; rotate_left
           · rintro w' ⟨s0, s1, s2, s3, s4, s5⟩; go_simp; with_reducible rfl
           rotate_left
           · simp only [Act.put, s1, s2, s3, i64_w, i32_w]; rfl
           refine one_ (i := 14) (N := some 50) q9_40 rfl rfl (one_of HT_.out (by kernel_rfl)) (by decide) (fun K hK => ?_); refine goes_ Try.func59 (by kernel_rfl) rfl #[.string ((rd_T62 l1 (ji19)).f0), .string ((rd_T62 l1 x5_1).f0)] (by rfl) rfl rfl (by (try simp only [List.map_toArray, List.map_cons, List.map_nil]); first | done | (simp only [hji19]; rfl) | rfl | (simp only [lD, lT]; rfl)) ?_; with_reducible refine (rundleref04_Less.calls kj4 ((rd_T62 l1 (ji19)).f0) ((rd_T62 l1 x5_1).f0) false _ A24.out).mono ?_
           rintro e w' ⟨rfl, ⟨nd, rfl⟩⟩; refine ⟨_, rfl, ?_⟩; refine hK.out _ _ ⟨((HB.out.cell (bL w _ hw301_0)).trans hw301_0), ((HB.out.cell (bL w _ hw301_1)).trans hw301_1), ((HB.out.cell (bL w _ hw301_2)).trans hw301_2), ((HB.out.cell (bL w _ hw302_0)).trans hw302_0), ((HB.out.cell (bL w _ hw302_1)).trans hw302_1), ((HB.out.cell (bL w _ hw302_2)).trans hw302_2)⟩ (fun hHeld => ?_); clear hK K; refine norm_ (a' := ?_) ?_ ?_; rotate_left
           · show Act.put _ (some 50) _ = _; simp only [Act.put, s1, s2, s3, i64_w, i32_w]; rfl
           refine pure_ (i := 15) (N := some 51) (v := ?_) (a' := ?_) q9_41 rfl rfl (any_of HT_.out (by kernel_rfl)) (fun _ _ _ h => h) (Or.inl ⟨by rfl, ?_⟩) ?_ ?_; rotate_left
           · intro w'; go_simp; with_reducible rfl
           rotate_left
           · simp only [Act.put, s1, s2, s3, i64_w, i32_w]; rfl
           refine pure_ (i := 16) (N := some 52) (v := ?_) (a' := ?_) q9_42 rfl rfl (any_of HT_.out (by kernel_rfl)) (fun _ _ _ h => h) (Or.inl ⟨by rfl, ?_⟩) ?_ ?_; rotate_left
           · intro w'; go_simp; with_reducible rfl
           rotate_left
           · simp only [Act.put, s1, s2, s3, i64_w, i32_w]; rfl
           refine done_ (done_of HT_.out (by kernel_rfl)) ?_; try go_wp2
           go_ret; exact ⟨by first | rfl | (simp [errW_none, errW_some] <;> rfl) | (simp only [← hji19]; first | rfl | (simp [errW_none, errW_some] <;> rfl)) | (simp [*, errW_none, errW_some] <;> rfl), by repeat (first | (with_reducible first | exact HB.out | apply wA | apply wN | apply wD | refine wS ?_ GE296.out) | exact HB.out)⟩
          rw [if_neg c23] at H; exact absurd H (by simp)
         rw [if_neg c22] at H; exact absurd H (by simp)
        rw [if_neg c21] at H; exact absurd H (by simp)
       rw [if_neg c20] at H; exact absurd H (by simp)
      rw [if_neg c18] at H; have c18b0 : decide (0 < x5_1) = false := dF c18; clear c18; have H' := K0 H; clear H; try go_wp2
      have n0_ := K0 (bD BK296.out); have n1_ := K0 (wD HB.out); clear BK296 HB; have BK296 := n0_; have HB := n1_; clear n0_ n1_; refine start_ (n := 17) (S := fun w' => True) (ds := []) q9_25 (by kernel_rfl) rfl rfl trivial (fun hHeld => ?_); refine with_tabW rundleref08_May.tab6 rundleref08_May.bits6 (fun HT_ HW_ => ?_)
      generalize wc.drew = w28 at BK296 HB hHeld ⊢; refine pure_ (i := 0) (N := some 36) (v := ?_) (a' := ?_) q9_26 rfl rfl (any_of HT_.out (by kernel_rfl)) (fun _ _ _ h => h) (Or.inl ⟨by rfl, ?_⟩) ?_ ?_; rotate_left
      · intro w'; go_simp; with_reducible rfl
      rotate_left
      · simp only [Act.put, s1, s2, s3, i64_w, i32_w]; rfl
      refine pure_ (i := 1) (N := some 37) (v := ?_) (a' := ?_) q9_27 rfl rfl (any_of HT_.out (by kernel_rfl)) (fun _ _ _ h => h) (Or.inl ⟨by rfl, ?_⟩) ?_ ?_; rotate_left
      · intro w'; go_simp; with_reducible rfl
      rotate_left
      · simp only [Act.put, s1, s2, s3, i64_w, i32_w]; rfl
      refine pure_ (i := 2) (N := some 38) (v := ?_) (a' := ?_) q9_28 rfl rfl (any_of HT_.out (by kernel_rfl)) (fun _ _ _ h => h) (Or.inl ⟨by rfl, ?_⟩) ?_ ?_; rotate_left
      · intro w'; go_simp; with_reducible rfl
      rotate_left
      · simp only [Act.put, s1, s2, s3, i64_w, i32_w]; rfl
      refine pure_ (i := 3) (N := some 39) (v := undef) (a' := ?_) q9_29 rfl rfl (any_of HT_.out (by kernel_rfl)) (fun _ _ _ h => h) (Or.inr ⟨by rfl, rfl⟩) ?_ ?_; rotate_left
      · simp only [Act.put, s1, s2, s3, i64_w, i32_w]; rfl
      refine pure_ (i := 4) (N := some 40) (v := undef) (a' := ?_) q9_30 rfl rfl (any_of HT_.out (by kernel_rfl)) (fun _ _ _ h => h) (Or.inr ⟨by rfl, rfl⟩) ?_ ?_; rotate_left
      · simp only [Act.put, s1, s2, s3, i64_w, i32_w]; rfl
      refine pure_ (i := 5) (N := some 41) (v := undef) (a' := ?_) q9_31 rfl rfl (any_of HT_.out (by kernel_rfl)) (fun _ _ _ h => h) (Or.inr ⟨by rfl, rfl⟩) ?_ ?_; rotate_left
      · simp only [Act.put, s1, s2, s3, i64_w, i32_w]; rfl
      refine pure_ (i := 6) (N := some 42) (v := undef) (a' := ?_) q9_32 rfl rfl (any_of HT_.out (by kernel_rfl)) (fun _ _ _ h => h) (Or.inr ⟨by rfl, rfl⟩) ?_ ?_; rotate_left
      · simp only [Act.put, s1, s2, s3, i64_w, i32_w]; rfl
      refine pure_ (i := 7) (N := some 43) (v := undef) (a' := ?_) q9_33 rfl rfl (any_of HT_.out (by kernel_rfl)) (fun _ _ _ h => h) (Or.inr ⟨by rfl, rfl⟩) ?_ ?_; rotate_left
      · simp only [Act.put, s1, s2, s3, i64_w, i32_w]; rfl
      refine pure_ (i := 8) (N := some 44) (v := undef) (a' := ?_) q9_43 rfl rfl (any_of HT_.out (by kernel_rfl)) (fun _ _ _ h => h) (Or.inr ⟨by rfl, rfl⟩) ?_ ?_; rotate_left
      · simp only [Act.put, s1, s2, s3, i64_w, i32_w]; rfl
      refine pure_ (i := 9) (N := some 45) (v := undef) (a' := ?_) q9_44 rfl rfl (any_of HT_.out (by kernel_rfl)) (fun _ _ _ h => h) (Or.inr ⟨by rfl, rfl⟩) ?_ ?_; rotate_left
      · simp only [Act.put, s1, s2, s3, i64_w, i32_w]; rfl
      refine pure_ (i := 10) (N := some 46) (v := undef) (a' := ?_) q9_45 rfl rfl (any_of HT_.out (by kernel_rfl)) (fun _ _ _ h => h) (Or.inr ⟨by rfl, rfl⟩) ?_ ?_; rotate_left
      · simp only [Act.put, s1, s2, s3, i64_w, i32_w]; rfl
      refine pure_ (i := 11) (N := some 47) (v := undef) (a' := ?_) q9_46 rfl rfl (any_of HT_.out (by kernel_rfl)) (fun _ _ _ h => h) (Or.inr ⟨by rfl, rfl⟩) ?_ ?_; rotate_left
      · simp only [Act.put, s1, s2, s3, i64_w, i32_w]; rfl
      refine pure_ (i := 12) (N := some 48) (v := undef) (a' := ?_) q9_38 rfl rfl (any_of HT_.out (by kernel_rfl)) (fun _ _ _ h => h) (Or.inr ⟨by rfl, rfl⟩) ?_ ?_; rotate_left
      · simp only [Act.put, s1, s2, s3, i64_w, i32_w]; rfl
      refine pure_ (i := 13) (N := some 49) (v := undef) (a' := ?_) q9_39 rfl rfl (any_of HT_.out (by kernel_rfl)) (fun _ _ _ h => h) (Or.inr ⟨by rfl, rfl⟩) ?_ ?_; rotate_left
      · simp only [Act.put, s1, s2, s3, i64_w, i32_w]; rfl
      refine pure_ (i := 14) (N := some 50) (v := undef) (a' := ?_) q9_40 rfl rfl (any_of HT_.out (by kernel_rfl)) (fun _ _ _ h => h) (Or.inr ⟨by rfl, rfl⟩) ?_ ?_; rotate_left
      · simp only [Act.put, s1, s2, s3, i64_w, i32_w]; rfl
      refine pure_ (i := 15) (N := some 51) (v := undef) (a' := ?_) q9_41 rfl rfl (any_of HT_.out (by kernel_rfl)) (fun _ _ _ h => h) (Or.inr ⟨by rfl, rfl⟩) ?_ ?_; rotate_left
      · simp only [Act.put, s1, s2, s3, i64_w, i32_w]; rfl
      refine pure_ (i := 16) (N := some 52) (v := ?_) (a' := ?_) q9_42 rfl rfl (any_of HT_.out (by kernel_rfl)) (fun _ _ _ h => h) (Or.inl ⟨by rfl, ?_⟩) ?_ ?_; rotate_left
      · intro w'; go_simp; with_reducible rfl
      rotate_left
      · simp only [Act.put, s1, s2, s3, i64_w, i32_w]; rfl
      refine done_ (done_of HT_.out (by kernel_rfl)) ?_; try go_wp2
      go_roundg kj4
      case measure => have := HK1.out; have := HJ4.out; omega
      case rel => exact ⟨(wrap64 (x5_1 + 1)), (by first | rfl | (simp; done) | (simp [*]; done)), H', ⟨by have := HK1.out; have := HJ4.out; omega⟩, ⟨by (with_reducible repeat (first | refine bN ?_ _ | refine bD ?_ | refine bA ?_ _)); exact BK296.out⟩, ⟨by repeat (first | (with_reducible first | exact HB.out | apply wA | apply wN | apply wD | refine wS ?_ GE296.out) | exact HB.out)⟩⟩
   rw [if_neg c4] at H; have c4b0 : decide (x5_1 < (l1.length : Int)) = false := dF c4; clear c4; obtain rfl := Option.some.inj H; go_wp2
   go_ret; exact ⟨by first | rfl | (simp [errW_none, errW_some] <;> rfl) | (simp [*, errW_none, errW_some] <;> rfl), by repeat (first | (with_reducible first | exact HB.out | apply wA | apply wN | apply wD | refine wS ?_ GE296.out) | exact HB.out)⟩
end Go.Proofs.Ytoaacdjcjicemaa.PRevApplies
