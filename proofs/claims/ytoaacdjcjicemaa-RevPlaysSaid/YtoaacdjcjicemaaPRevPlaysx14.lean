-- written by a program of this session (the print, turned)
import Derived.Test.YtoaacdjcjicemaaPRevPlaysx0
import Derived.Test.YtoaacdjcjicemaaPRevPlaysx8a
import Derived.Test.YtoaacdjcjicemaaWAl
namespace Go.Proofs.Ytoaacdjcjicemaa.PRevPlays
open Go.RowKit Go.Proofs.YtoaacdjcjicemaaW.PrintWords Go.Proofs.YtoaacdjcjicemaaW.PrintLast Go.Proofs.YtoaacdjcjicemaaW.PrintMore
attribute [local go_sem] cell_self cell_there leq_str geq_str gtr_str max2_str max2_int min2_int max_two min_two max_three min_three max_four min_four   -- for this text's walks alone
set_option linter.unusedVariables false
set_option linter.unusedSimpArgs false
abbrev q14_0 : Array Bool := #[false, false, false, false, false, false, false, false, false, false, false, false, false, false, false, false, false, false, false, false, false]
abbrev q14_1 : Array Bool := #[true, false, false, false, false, false, false, false, false, false, false, false, false, false, false, false, false, false, false, false, false]
abbrev q14_2 : Array Bool := #[true, true, false, false, false, false, false, false, false, false, false, false, false, false, false, false, false, false, false, false, false]
abbrev q14_3 : Array Bool := #[true, true, true, false, false, false, false, false, false, false, false, false, false, false, false, false, false, false, false, false, false]
abbrev q14_4 : Array Bool := #[true, true, true, true, false, false, false, false, false, false, false, false, false, false, false, false, false, false, false, false, false]
abbrev q14_5 : Array Bool := #[true, true, true, true, true, false, false, false, false, false, false, false, false, false, false, false, false, false, false, false, false]
abbrev q14_6 : Array Bool := #[true, true, true, true, true, true, false, false, false, false, false, false, false, false, false, false, false, false, false, false, false]
abbrev q14_7 : Array Bool := #[true, true, true, true, true, true, true, false, false, false, false, false, false, false, false, false, false, false, false, false, false]
abbrev q14_8 : Array Bool := #[true, true, true, true, true, true, true, true, false, false, false, false, false, false, false, false, false, false, false, false, false]
abbrev q14_9 : Array Bool := #[true, true, true, true, true, true, true, true, true, false, false, false, false, false, false, false, false, false, false, false, false]
abbrev q14_10 : Array Bool := #[true, true, true, true, true, true, true, true, true, true, false, false, false, false, false, false, false, false, false, false, false]
abbrev q14_11 : Array Bool := #[true, true, true, true, true, true, true, true, true, true, true, false, false, false, false, false, false, false, false, false, false]
abbrev q14_12 : Array Bool := #[true, true, true, true, true, true, true, true, true, true, true, true, false, false, false, false, false, false, false, false, false]
abbrev q14_13 : Array Bool := #[true, true, true, true, true, true, true, true, true, true, true, true, true, false, false, false, false, false, false, false, false]
abbrev q14_14 : Array Bool := #[true, true, true, true, true, true, true, true, true, true, true, true, true, true, false, false, false, false, false, false, false]
abbrev q14_15 : Array Bool := #[true, true, true, true, true, true, true, true, true, true, true, true, true, true, true, false, false, false, false, false, false]
abbrev q14_16 : Array Bool := #[true, true, true, true, true, true, true, true, true, true, true, true, true, true, true, true, false, false, false, false, false]
abbrev q14_17 : Array Bool := #[true, true, true, true, true, true, true, true, true, true, true, true, true, true, true, true, true, false, false, false, false]
abbrev q14_18 : Array Bool := #[true, true, true, true, true, true, true, true, true, true, true, true, true, true, true, true, true, true, false, false, false]
abbrev q14_19 : Array Bool := #[true, true, true, true, true, true, true, true, true, true, true, true, true, true, true, true, true, true, true, false, false]
abbrev q14_20 : Array Bool := #[true, true, true, true, true, true, true, true, true, true, true, true, true, true, true, true, true, true, true, true, false]
abbrev q14_21 : Array Bool := #[true, true, true, true, true, true, true, true, true, true, true, true, true, true, true, true, true, true, true, true, true]
abbrev q14_22 : Array Bool := #[true, true, true, true, true, true, true, false, true, false, false, false, false, false, false, false, false, false, false, false, false]
abbrev q14_23 : Array Bool := #[true, true, true, true, true, true, true, false, true, true, false, false, false, false, false, false, false, false, false, false, false]
abbrev q14_24 : Array Bool := #[true, true, true, true, true, true, true, false, true, true, true, false, false, false, false, false, false, false, false, false, false]
abbrev q14_25 : Array Bool := #[true, true, true, true, true, true, true, false, true, true, true, true, false, false, false, false, false, false, false, false, false]
abbrev q14_26 : Array Bool := #[false, false, false, false, false, false, false, false, false, false, false, false, false, false, false]
abbrev q14_27 : Array Bool := #[true, false, false, false, false, false, false, false, false, false, false, false, false, false, false]
abbrev q14_28 : Array Bool := #[true, true, false, false, false, false, false, false, false, false, false, false, false, false, false]
abbrev q14_29 : Array Bool := #[true, true, true, false, false, false, false, false, false, false, false, false, false, false, false]
abbrev q14_30 : Array Bool := #[true, true, true, true, false, false, false, false, false, false, false, false, false, false, false]
abbrev q14_31 : Array Bool := #[true, true, true, true, true, false, false, false, false, false, false, false, false, false, false]
abbrev q14_32 : Array Bool := #[true, true, true, true, true, false, true, false, false, false, false, false, false, false, false]
abbrev q14_33 : Array Bool := #[true, true, true, true, true, false, true, true, false, false, false, false, false, false, false]
abbrev q14_34 : Array Bool := #[true, true, true, true, true, false, true, true, true, false, false, false, false, false, false]
abbrev q14_35 : Array Bool := #[true, true, true, true, true, false, true, true, true, true, false, false, false, false, false]
abbrev q14_36 : Array Bool := #[true, true, true, true, true, true, true, true, true, true, false, false, false, false, false]
abbrev q14_37 : Array Bool := #[true, true, true, true, true, true, true, true, true, true, true, false, false, false, false]
abbrev q14_38 : Array Bool := #[true, true, true, true, true, true, true, true, true, true, true, true, false, false, false]
abbrev q14_39 : Array Bool := #[true, true, true, true, true, true, true, true, true, true, true, true, true, false, false]
abbrev q14_40 : Array Bool := #[true, true, true, true, true, true, true, true, true, true, true, true, true, true, false]
abbrev q14_41 : Array Bool := #[true, true, true, true, true, true, true, true, true, true, true, true, true, true, true]
/-! ### rundleref08_Pairs: function 30 -/
def rundleref08_Pairs.l0 : Nat → List (S62) → Int → List (S130) → Int → ByteArray → ByteArray → Bool → Option ((List (S130)))
 | 0, _, _, _, _, _, _, _ => none
 | k + 1, x0, x2, x7, x8, x373000, x373001, x373002 => if x8 < (x0.length : Int) then (if 0 ≤ x8 then (if ((rd_T62 x0 x8).f2 = true) then (rundleref08_Pairs.l0 k x0 x2 x7 (wrap64 (x8 + 1)) x373000 x373001 x373002) else ((rundleref04_Has.f k x373000 x373001 x373002 ((rd_T62 x0 x8).f0)).bind fun t375 => (if t375 = true then (if (x7.length : Int) < x2 then (if x7.length < 4398046511104 then (rundleref08_Pairs.l0 k x0 x2 (x7 ++ [(⟨(rd_T62 x0 x8).f0, (rd_T62 x0 x8).f1⟩ : S130)]) (wrap64 (x8 + 1)) x373000 x373001 x373002) else (none)) else (rundleref08_Pairs.l0 k x0 x2 x7 (wrap64 (x8 + 1)) x373000 x373001 x373002)) else (rundleref08_Pairs.l0 k x0 x2 x7 (wrap64 (x8 + 1)) x373000 x373001 x373002)))) else (none)) else (some x7)
def rundleref08_Pairs.f (k : Nat) (l0 : List (S62)) (a1_0 : ByteArray) (a1_1 : ByteArray) (a1_2 : Bool) (a2 : Int) : Option ((List (S130))) := rundleref08_Pairs.l0 k l0 a2 ([] : List (S130)) 0 a1_0 a1_1 a1_2
def rundleref08_Pairs.T5 : Bool × List (List Nat × List Nat) := (true, [([], []), ([], []), ([0, 1], [0, 1]), ([2], [2]), ([3], [3]), ([4], [4]), ([5], [5]), ([6], [6]), ([6], [6]), ([6], [6]), ([8, 9, 6], [6, 8, 9]), ([10, 6], [6, 10]), ([11, 6], [6, 11]), ([7, 12, 6, 6], [6, 7, 12]), ([6, 13], [6, 13]), ([14, 13], [14]), ([15], [15]), ([16, 15], [15, 16]), ([15], [15]), ([17, 18, 15], [15, 17, 18]), ([15, 19], [15, 19])])
def rundleref08_Pairs.B5 : List Nat := [0, 0, 3, 7, 15, 31, 63, 127, 127, 127, 895, 1919, 3967, 8191, 16383, 32767, 65535, 131071, 65535, 524287, 1048575]
theorem rundleref08_Pairs.tab5 : rtab .any (opsOf Try.f30 5) = rundleref08_Pairs.T5 := by kernel_rfl
theorem rundleref08_Pairs.bits5 : waitsOk rundleref08_Pairs.T5.2 rundleref08_Pairs.B5 = true := by kernel_rfl
def rundleref08_Pairs.T6 : Bool × List (List Nat × List Nat) := (true, [([], []), ([], []), ([], []), ([1, 2], [1, 2]), ([3], [3]), ([4], [4]), ([], []), ([], []), ([6, 7], [6, 7]), ([8], [8]), ([9], [9]), ([5, 10], [5, 10]), ([11], [11]), ([0, 12], [0, 12]), ([13, 13, 0, 1, 2, 3, 4, 5, 6, 7, 8, 9, 10, 11, 12, 13], [0, 13])])
def rundleref08_Pairs.B6 : List Nat := [0, 0, 0, 6, 14, 30, 0, 0, 192, 448, 960, 2046, 4094, 8191, 16383]
theorem rundleref08_Pairs.tab6 : rtab .any (opsOf Try.f30 6) = rundleref08_Pairs.T6 := by kernel_rfl
theorem rundleref08_Pairs.bits6 : waitsOk rundleref08_Pairs.T6.2 rundleref08_Pairs.B6 = true := by kernel_rfl
set_option maxHeartbeats 8000000 in
set_option maxRecDepth 100000 in
theorem rundleref08_Pairs.calls (k : Nat) (A0 : Option Addr) (c0 : Nat) (l0 : List (S62)) (a1_0 : ByteArray) (a1_1 : ByteArray) (a1_2 : Bool) (a2 : Int) (r : List (S130)) (w : World) (hr0 : Kd.C k62 w A0 l0.length l0) (hc0 : l0.length ≤ c0) (h : rundleref08_Pairs.f k l0 a1_0 a1_1 a1_2 a2 = some r) :
  Calls Try.prog 30 #[.slice A0 l0.length c0, .agg #[.string a1_0, .string a1_1, .bool a1_2], .int .i64 a2] w fun e w' => ∃ v0_ : Value, e = .returned (v0_) ∧ Kd.R k130 130 w' w.heap.size (fun _ => True) v0_ r ∧ Below w.heap.size w w' := by
 have hu23 := Try.underlying23
 have hu130 := Try.underlying130
 have HR0 := K0 hr0
 have HC0 := K0 hc0
 clear hr0 hc0
 have HB := K0 (Below.refl w.heap.size w)
 have H : (rundleref08_Pairs.l0 k l0 a2 ([] : List (S130)) 0 a1_0 a1_1 a1_2) = some r := h
 clear h
 have H' := K0 H
 clear H
 go_enter Try.func30, Try.ntmps30
 go_wp2_with (first | ((with_reducible refine gate_dst (N := 4) rfl ?_); (try (refine gate_guard (by rfl) ?_; dsimp only)); refine box_event ?hg (N := 4) ?hd (cs := #[.string a1_0, .string a1_1, .bool a1_2]) (t := 23) ?hr ?_; (case hd => rfl); (case hg => rfl); (case hr => first | (go_simp; done) | (go_simp; rfl)); intro gb372 hg w4 hbox hb; have n0_ := K0 (below_step (by repeat (first | (with_reducible first | exact HB.out | apply wA | apply wN | apply wD) | exact HB.out)) hb); have n1_ := K0 (hbox); have n2_ := K0 ((by rw [hg]; exact (below_size (by repeat (first | (with_reducible first | exact HB.out | apply wA | apply wN | apply wD) | exact HB.out))) : w.heap.size ≤ gb372)); have n3_ := K0 ((by rw [hg]; exact (below_size (by repeat (first | (with_reducible first | exact HB.out | apply wA | apply wN | apply wD) | exact HB.out))) : w.heap.size ≤ gb372)); clear HB; have HB := n0_; have BK372 := n1_; have GW372 := n2_; have GE372 := n3_; clear n0_ n1_ n2_ n3_; clear hb hbox hg))
 go_loopg [7, 8] k (fun kq v7 v8 w' => ∃ (x7_1 : List (S130)) (x8_1 : Int), v8 = .int .i64 x8_1 ∧ Aside0 (rundleref08_Pairs.l0 kq l0 a2 x7_1 x8_1 a1_0 a1_1 a1_2 = some r) ∧ Aside0 (kq ≤ k) ∧ Aside0 (Kd.R k130 130 w' w.heap.size (fun _ => True) v7 x7_1) ∧ Aside0 (w'.heap[gb372]? = some (.cells #[.string a1_0, .string a1_1, .bool a1_2] 23 (0, 0))) ∧ Aside0 (Below w.heap.size w w'))
 case atStart => exact ⟨(([] : List (S130))), (0), (by first | rfl | (simp; done) | (simp [*]; done)), H', ⟨Nat.le_refl _⟩, ⟨by first | exact Kd.R_nil _ _ _ _ _ | exact Kd.N_nil _ _ _ _ _ | exact Kd.V_nil _ _ _ _ _ | exact Kd.Q_nil _ _ _ _ _ | exact Kd.S_nil _ _ _ _ _⟩, ⟨by (with_reducible repeat (first | refine bN ?_ _ | refine bD ?_ | refine bA ?_ _)); exact BK372.out⟩, ⟨by repeat (first | (with_reducible first | exact HB.out | apply wA | apply wN | apply wD | refine wS ?_ GE372.out) | exact HB.out)⟩⟩
 case round =>
  clear H'
  try clear p2
  try clear c3
  obtain ⟨x7_1, x8_1, rfl, HA, HK1, HO_7, BK372, HB⟩ := hrel
  cases gk with
  | zero => exact absurd HA.out (by simp [rundleref08_Pairs.l0])
  | succ k1 =>
   have H := HA.out
   clear HA
   simp only [rundleref08_Pairs.l0] at H
   by_cases c5 : x8_1 < (l0.length : Int)
   ·
    rw [if_pos c5] at H
    have c5b0 : decide (x8_1 < (l0.length : Int)) = true := dT c5
    clear c5
    by_cases c6 : 0 ≤ x8_1
    ·
     rw [if_pos c6] at H
     have c6b0 : decide (0 ≤ x8_1) = true := dT c6
     clear c6
     obtain ⟨bq7, hbq7⟩ : ∃ b_ : Bool, b_ = ((rd_T62 l0 x8_1).f2) := ⟨_, rfl⟩
     replace H : (if (bq7 = true) then (rundleref08_Pairs.l0 k1 l0 a2 x7_1 (wrap64 (x8_1 + 1)) a1_0 a1_1 a1_2) else ((rundleref04_Has.f k1 a1_0 a1_1 a1_2 ((rd_T62 l0 x8_1).f0)).bind fun t375 => (if t375 = true then (if (x7_1.length : Int) < a2 then (if x7_1.length < 4398046511104 then (rundleref08_Pairs.l0 k1 l0 a2 (x7_1 ++ [(⟨(rd_T62 l0 x8_1).f0, (rd_T62 l0 x8_1).f1⟩ : S130)]) (wrap64 (x8_1 + 1)) a1_0 a1_1 a1_2) else (none)) else (rundleref08_Pairs.l0 k1 l0 a2 x7_1 (wrap64 (x8_1 + 1)) a1_0 a1_1 a1_2)) else (rundleref08_Pairs.l0 k1 l0 a2 x7_1 (wrap64 (x8_1 + 1)) a1_0 a1_1 a1_2)))) = some r := by rw [← hbq7] at H; exact H
     have Nbq7 := K0 hbq7
     clear hbq7
     by_cases c8 : (bq7 = true)
     ·
      subst c8
      have H1 : (rundleref08_Pairs.l0 k1 l0 a2 x7_1 (wrap64 (x8_1 + 1)) a1_0 a1_1 a1_2) = some r := by rw [if_pos rfl] at H; exact H
      clear H
      have H := H1
      clear H1
      have H' := K0 H
      clear H
      try go_wp2
      have n0_ := K0 (rD HO_7.out)
      have n1_ := K0 (bD BK372.out)
      have n2_ := K0 (wD HB.out)
      clear HO_7
      clear BK372
      clear HB
      have HO_7 := n0_
      have BK372 := n1_
      have HB := n2_
      clear n0_ n1_ n2_
      have p373 : 0 ≤ (x8_1 : Int) := oT (by first | (with_reducible assumption) | assumption)
      have q373 : x8_1 < (l0.length : Int) := oT (by first | (with_reducible assumption) | assumption)
      obtain ⟨ad373, e373, hx373_0, hx373_1, hx373_2⟩ := at_T62 HR0.out x8_1 p373 q373
      have hw373_2 := hx373_2
      have hw373_1 := hx373_1
      have hw373_0 := hx373_0
      (try rw [← Nbq7.out] at hx373_2)
      (try rw [← Nbq7.out] at hw373_2)
      cases e373
      replace hx373_0 := (HB.out.cell (bL w _ hx373_0)).trans hx373_0
      replace hx373_1 := (HB.out.cell (bL w _ hx373_1)).trans hx373_1
      replace hx373_2 := (HB.out.cell (bL w _ hx373_2)).trans hx373_2
      replace p373 := eq_true p373
      replace q373 := eq_true q373
      refine start_ (n := 21) (S := fun w' => w'.cell? (ad373.add ((x8_1).toNat * 3)) = some (.string ((rd_T62 l0 x8_1).f0)) ∧ w'.cell? ⟨(ad373.add ((x8_1).toNat * 3)).block, (ad373.add ((x8_1).toNat * 3)).off + 1, none⟩ = some (.string ((rd_T62 l0 x8_1).f1)) ∧ w'.cell? ⟨(ad373.add ((x8_1).toNat * 3)).block, (ad373.add ((x8_1).toNat * 3)).off + 2, none⟩ = some (.bool true)) (ds := []) q14_0 (by kernel_rfl) rfl rfl ⟨((HB.out.cell (bL w _ hw373_0)).trans hw373_0), ((HB.out.cell (bL w _ hw373_1)).trans hw373_1), ((HB.out.cell (bL w _ hw373_2)).trans hw373_2)⟩ (fun hHeld => ?_); refine with_tabW rundleref08_Pairs.tab5 rundleref08_Pairs.bits5 (fun HT_ HW_ => ?_)
      generalize wr.drew = w9 at HO_7 BK372 HB hx373_0 hx373_1 hx373_2 hHeld ⊢
      refine pure_ (i := 0) (N := some 15) (v := ?_) (a' := ?_) q14_1 rfl rfl (any_of HT_.out (by kernel_rfl)) (fun _ _ _ h => h) (Or.inl ⟨by rfl, ?_⟩) ?_ ?_
      rotate_left
      ·
       intro w'
       go_simp
       with_reducible rfl
      rotate_left
      ·
       simp only [Act.put, s1, s2, s3, i64_w, i32_w]
       rfl
      refine pure_ (i := 1) (N := some 16) (v := ?_) (a' := ?_) q14_2 rfl rfl (any_of HT_.out (by kernel_rfl)) (fun _ _ _ h => h) (Or.inl ⟨by rfl, ?_⟩) ?_ ?_
      rotate_left
      ·
       intro w'
       go_simp
       with_reducible rfl
      rotate_left
      ·
       simp only [Act.put, s1, s2, s3, i64_w, i32_w]
       rfl
      refine pure_ (i := 2) (N := some 17) (v := ?_) (a' := ?_) q14_3 rfl rfl (any_of HT_.out (by kernel_rfl)) (fun _ _ _ h => h) (Or.inl ⟨by rfl, ?_⟩) ?_ ?_
      rotate_left
      ·
       intro w'
       go_simp
       with_reducible rfl
      rotate_left
      ·
       simp only [Act.put, s1, s2, s3, i64_w, i32_w]
       rfl
      refine pure_ (i := 3) (N := some 18) (v := ?_) (a' := ?_) q14_4 rfl rfl (any_of HT_.out (by kernel_rfl)) (fun _ _ _ h => h) (Or.inl ⟨by rfl, ?_⟩) ?_ ?_
      rotate_left
      ·
       intro w'
       go_simp
       with_reducible rfl
      rotate_left
      ·
       simp only [Act.put, s1, s2, s3, i64_w, i32_w]
       rfl
      refine take_ (i := 4) (N := some 19) (v := ?_) (a' := ?_) q14_5 rfl rfl (take_ofW HT_.out HW_.out (by kernel_rfl)) (fun _ _ _ h => h) (Or.inl ⟨by rfl, ?_⟩) hHeld ?_ ?_
      rotate_left
      ·
       rintro w' ⟨s0, s1, s2⟩
       go_simp
       with_reducible rfl
      rotate_left
      ·
       simp only [Act.put, s1, s2, s3, i64_w, i32_w]
       rfl
      refine pure_ (i := 5) (N := some 20) (v := ?_) (a' := ?_) q14_6 rfl rfl (any_of HT_.out (by kernel_rfl)) (fun _ _ _ h => h) (Or.inl ⟨by rfl, ?_⟩) ?_ ?_
      rotate_left
      ·
       intro w'
       go_simp
       with_reducible rfl
      rotate_left
      ·
       simp only [Act.put, s1, s2, s3, i64_w, i32_w]
       rfl
      refine pure_ (i := 6) (N := some 21) (v := ?_) (a' := ?_) q14_7 rfl rfl (any_of HT_.out (by kernel_rfl)) (fun _ _ _ h => h) (Or.inl ⟨by rfl, ?_⟩) ?_ ?_
      rotate_left
      ·
       intro w'
       go_simp
       with_reducible rfl
      rotate_left
      ·
       simp only [Act.put, s1, s2, s3, i64_w, i32_w]
       rfl
      refine pure_ (i := 7) (N := some 22) (v := undef) (a' := ?_) q14_8 rfl rfl (any_of HT_.out (by kernel_rfl)) (fun _ _ _ h => h) (Or.inr ⟨by rfl, rfl⟩) ?_ ?_
      rotate_left
      ·
       simp only [Act.put, s1, s2, s3, i64_w, i32_w]
       rfl
      refine pure_ (i := 8) (N := some 23) (v := undef) (a' := ?_) q14_9 rfl rfl (any_of HT_.out (by kernel_rfl)) (fun _ _ _ h => h) (Or.inr ⟨by rfl, rfl⟩) ?_ ?_
      rotate_left
      ·
       simp only [Act.put, s1, s2, s3, i64_w, i32_w]
       rfl
      refine pure_ (i := 9) (N := some 24) (v := undef) (a' := ?_) q14_10 rfl rfl (any_of HT_.out (by kernel_rfl)) (fun _ _ _ h => h) (Or.inr ⟨by rfl, rfl⟩) ?_ ?_
      rotate_left
      ·
       simp only [Act.put, s1, s2, s3, i64_w, i32_w]
       rfl
      refine pure_ (i := 10) (N := some 25) (v := undef) (a' := ?_) q14_11 rfl rfl (any_of HT_.out (by kernel_rfl)) (fun _ _ _ h => h) (Or.inr ⟨by rfl, rfl⟩) ?_ ?_
      rotate_left
      ·
       simp only [Act.put, s1, s2, s3, i64_w, i32_w]
       rfl
      refine pure_ (i := 11) (N := some 26) (v := undef) (a' := ?_) q14_12 rfl rfl (any_of HT_.out (by kernel_rfl)) (fun _ _ _ h => h) (Or.inr ⟨by rfl, rfl⟩) ?_ ?_
      rotate_left
      ·
       simp only [Act.put, s1, s2, s3, i64_w, i32_w]
       rfl
      refine pure_ (i := 12) (N := some 27) (v := undef) (a' := ?_) q14_13 rfl rfl (any_of HT_.out (by kernel_rfl)) (fun _ _ _ h => h) (Or.inr ⟨by rfl, rfl⟩) ?_ ?_
      rotate_left
      ·
       simp only [Act.put, s1, s2, s3, i64_w, i32_w]
       rfl
      refine pure_ (i := 13) (N := some 28) (v := undef) (a' := ?_) q14_14 rfl rfl (any_of HT_.out (by kernel_rfl)) (fun _ _ _ h => h) (Or.inr ⟨by rfl, rfl⟩) ?_ ?_
      rotate_left
      ·
       simp only [Act.put, s1, s2, s3, i64_w, i32_w]
       rfl
      refine pure_ (i := 14) (N := some 29) (v := ?_) (a' := ?_) q14_15 rfl rfl (any_of HT_.out (by kernel_rfl)) (fun _ _ _ h => h) (Or.inl ⟨by rfl, ?_⟩) ?_ ?_
      rotate_left
      ·
       intro w'
       go_simp
       with_reducible rfl
      rotate_left
      ·
       simp only [Act.put, s1, s2, s3, i64_w, i32_w]
       rfl
      refine pure_ (i := 15) (N := some 30) (v := ?_) (a' := ?_) q14_16 rfl rfl (any_of HT_.out (by kernel_rfl)) (fun _ _ _ h => h) (Or.inl ⟨by rfl, ?_⟩) ?_ ?_
      rotate_left
      ·
       intro w'
       go_simp
       with_reducible rfl
      rotate_left
      ·
       simp only [Act.put, s1, s2, s3, i64_w, i32_w]
       rfl
      refine pure_ (i := 16) (N := some 31) (v := undef) (a' := ?_) q14_17 rfl rfl (any_of HT_.out (by kernel_rfl)) (fun _ _ _ h => h) (Or.inr ⟨by rfl, rfl⟩) ?_ ?_
      rotate_left
      ·
       simp only [Act.put, s1, s2, s3, i64_w, i32_w]
       rfl
      refine pure_ (i := 17) (N := some 32) (v := undef) (a' := ?_) q14_18 rfl rfl (any_of HT_.out (by kernel_rfl)) (fun _ _ _ h => h) (Or.inr ⟨by rfl, rfl⟩) ?_ ?_
      rotate_left
      ·
       simp only [Act.put, s1, s2, s3, i64_w, i32_w]
       rfl
      refine pure_ (i := 18) (N := some 33) (v := undef) (a' := ?_) q14_19 rfl rfl (any_of HT_.out (by kernel_rfl)) (fun _ _ _ h => h) (Or.inr ⟨by rfl, rfl⟩) ?_ ?_
      rotate_left
      ·
       simp only [Act.put, s1, s2, s3, i64_w, i32_w]
       rfl
      refine pure_ (i := 19) (N := some 34) (v := undef) (a' := ?_) q14_20 rfl rfl (any_of HT_.out (by kernel_rfl)) (fun _ _ _ h => h) (Or.inr ⟨by rfl, rfl⟩) ?_ ?_
      rotate_left
      ·
       simp only [Act.put, s1, s2, s3, i64_w, i32_w]
       rfl
      refine pure_ (i := 20) (N := some 35) (v := ?_) (a' := ?_) q14_21 rfl rfl (any_of HT_.out (by kernel_rfl)) (fun _ _ _ h => h) (Or.inl ⟨by rfl, ?_⟩) ?_ ?_
      rotate_left
      ·
       intro w'
       go_simp
       with_reducible rfl
      rotate_left
      ·
       simp only [Act.put, s1, s2, s3, i64_w, i32_w]
       rfl
      refine done_ (done_of HT_.out (by kernel_rfl)) ?_
      try go_wp2
      go_roundg k1
      case measure => have := HK1.out; omega
      case rel => exact ⟨(x7_1), (wrap64 (x8_1 + 1)), (by first | rfl | (simp; done) | (simp [*]; done)), H', ⟨by have := HK1.out; omega⟩, ⟨by (with_reducible repeat (first | apply rA | apply rN | apply rD)); exact HO_7.out⟩, ⟨by (with_reducible repeat (first | refine bN ?_ _ | refine bD ?_ | refine bA ?_ _)); exact BK372.out⟩, ⟨by repeat (first | (with_reducible first | exact HB.out | apply wA | apply wN | apply wD | refine wS ?_ GE372.out) | exact HB.out)⟩⟩
     ·
      replace c8 := Bool.eq_false_iff.mpr c8
      subst c8
      have H1 : ((rundleref04_Has.f k1 a1_0 a1_1 a1_2 ((rd_T62 l0 x8_1).f0)).bind fun t375 => (if t375 = true then (if (x7_1.length : Int) < a2 then (if x7_1.length < 4398046511104 then (rundleref08_Pairs.l0 k1 l0 a2 (x7_1 ++ [(⟨(rd_T62 l0 x8_1).f0, (rd_T62 l0 x8_1).f1⟩ : S130)]) (wrap64 (x8_1 + 1)) a1_0 a1_1 a1_2) else (none)) else (rundleref08_Pairs.l0 k1 l0 a2 x7_1 (wrap64 (x8_1 + 1)) a1_0 a1_1 a1_2)) else (rundleref08_Pairs.l0 k1 l0 a2 x7_1 (wrap64 (x8_1 + 1)) a1_0 a1_1 a1_2))) = some r := by rw [if_neg (show ¬ (false = true) by decide)] at H; exact H
      clear H
      have H := H1
      clear H1
      replace H := Option.bind_eq_some_iff.mp H
      obtain ⟨t375, A100, H⟩ := H
      replace H : (if t375 = true then (if (x7_1.length : Int) < a2 then (if x7_1.length < 4398046511104 then (rundleref08_Pairs.l0 k1 l0 a2 (x7_1 ++ [(⟨(rd_T62 l0 x8_1).f0, (rd_T62 l0 x8_1).f1⟩ : S130)]) (wrap64 (x8_1 + 1)) a1_0 a1_1 a1_2) else (none)) else (rundleref08_Pairs.l0 k1 l0 a2 x7_1 (wrap64 (x8_1 + 1)) a1_0 a1_1 a1_2)) else (rundleref08_Pairs.l0 k1 l0 a2 x7_1 (wrap64 (x8_1 + 1)) a1_0 a1_1 a1_2)) = some r := H
      have A10 := K0 A100
      clear A100
      by_cases c11 : t375 = true
      ·
       subst c11
       have H1 : (if (x7_1.length : Int) < a2 then (if x7_1.length < 4398046511104 then (rundleref08_Pairs.l0 k1 l0 a2 (x7_1 ++ [(⟨(rd_T62 l0 x8_1).f0, (rd_T62 l0 x8_1).f1⟩ : S130)]) (wrap64 (x8_1 + 1)) a1_0 a1_1 a1_2) else (none)) else (rundleref08_Pairs.l0 k1 l0 a2 x7_1 (wrap64 (x8_1 + 1)) a1_0 a1_1 a1_2)) = some r := by rw [if_pos rfl] at H; exact H
       clear H
       have H := H1
       clear H1
       by_cases c12 : (x7_1.length : Int) < a2
       ·
        rw [if_pos c12] at H
        have c12b0 : decide ((x7_1.length : Int) < a2) = true := dT c12
        clear c12
        by_cases c13 : x7_1.length < 4398046511104
        ·
         rw [if_pos c13] at H
         have LMc13 := K0 c13
         clear c13
         obtain ⟨y378, hy378⟩ : ∃ y_ : List (S130), y_ = (x7_1 ++ [(⟨(rd_T62 l0 x8_1).f0, (rd_T62 l0 x8_1).f1⟩ : S130)]) := ⟨_, rfl⟩
         replace H : (rundleref08_Pairs.l0 k1 l0 a2 y378 (wrap64 (x8_1 + 1)) a1_0 a1_1 a1_2) = some r := by first | (rw [hy378]; with_reducible exact H) | (have H2_ := (Option.bind_some _ _).symm.trans H; rw [hy378]; with_reducible exact H2_) | (have H2_ := (Option.bind_some _ _).symm.trans H; with_reducible exact H2_) | with_reducible exact H | (rw [hy378]; exact H) | exact H
         have Ny378 := K0 hy378
         clear hy378
         have H' := K0 H
         clear H
         try go_wp2
         have n0_ := K0 (rD HO_7.out)
         have n1_ := K0 (bD BK372.out)
         have n2_ := K0 (wD HB.out)
         clear HO_7
         clear BK372
         clear HB
         have HO_7 := n0_
         have BK372 := n1_
         have HB := n2_
         clear n0_ n1_ n2_
         have p373 : 0 ≤ (x8_1 : Int) := oT (by first | (with_reducible assumption) | assumption)
         have q373 : x8_1 < (l0.length : Int) := oT (by first | (with_reducible assumption) | assumption)
         obtain ⟨ad373, e373, hx373_0, hx373_1, hx373_2⟩ := at_T62 HR0.out x8_1 p373 q373
         have hw373_2 := hx373_2
         have hw373_1 := hx373_1
         have hw373_0 := hx373_0
         (try rw [← Nbq7.out] at hx373_2)
         (try rw [← Nbq7.out] at hw373_2)
         cases e373
         replace hx373_0 := (HB.out.cell (bL w _ hx373_0)).trans hx373_0
         replace hx373_1 := (HB.out.cell (bL w _ hx373_1)).trans hx373_1
         replace hx373_2 := (HB.out.cell (bL w _ hx373_2)).trans hx373_2
         replace p373 := eq_true p373
         replace q373 := eq_true q373
         have p374 : 0 ≤ (x8_1 : Int) := oT (by first | (with_reducible assumption) | assumption)
         have q374 : x8_1 < (l0.length : Int) := oT (by first | (with_reducible assumption) | assumption)
         obtain ⟨ad374, e374, hx374_0, hx374_1, hx374_2⟩ := at_T62 HR0.out x8_1 p374 q374
         have hw374_2 := hx374_2
         have hw374_1 := hx374_1
         have hw374_0 := hx374_0
         (try rw [← Nbq7.out] at hx374_2)
         (try rw [← Nbq7.out] at hw374_2)
         obtain rfl : ad373 = ad374 := (by injection e374)
         replace hx374_0 := (HB.out.cell (bL w _ hx374_0)).trans hx374_0
         replace hx374_1 := (HB.out.cell (bL w _ hx374_1)).trans hx374_1
         replace hx374_2 := (HB.out.cell (bL w _ hx374_2)).trans hx374_2
         replace p374 := eq_true p374
         replace q374 := eq_true q374
         refine start_ (n := 21) (S := fun w' => w'.cell? ⟨gb372, 0, none⟩ = some (.string a1_0) ∧ w'.cell? ⟨gb372, 1, none⟩ = some (.string a1_1) ∧ w'.cell? ⟨gb372, 2, none⟩ = some (.bool a1_2) ∧ w'.cell? (ad373.add ((x8_1).toNat * 3)) = some (.string ((rd_T62 l0 x8_1).f0)) ∧ w'.cell? ⟨(ad373.add ((x8_1).toNat * 3)).block, (ad373.add ((x8_1).toNat * 3)).off + 1, none⟩ = some (.string ((rd_T62 l0 x8_1).f1)) ∧ w'.cell? ⟨(ad373.add ((x8_1).toNat * 3)).block, (ad373.add ((x8_1).toNat * 3)).off + 2, none⟩ = some (.bool false) ∧ w'.cell? (ad373.add ((x8_1).toNat * 3)) = some (.string ((rd_T62 l0 x8_1).f0)) ∧ w'.cell? ⟨(ad373.add ((x8_1).toNat * 3)).block, (ad373.add ((x8_1).toNat * 3)).off + 1, none⟩ = some (.string ((rd_T62 l0 x8_1).f1)) ∧ w'.cell? ⟨(ad373.add ((x8_1).toNat * 3)).block, (ad373.add ((x8_1).toNat * 3)).off + 2, none⟩ = some (.bool (false))) (ds := []) q14_0 (by kernel_rfl) rfl rfl ⟨(bC BK372.out 0).trans rfl, (bC BK372.out 1).trans rfl, (bC BK372.out 2).trans rfl, ((HB.out.cell (bL w _ hw373_0)).trans hw373_0), ((HB.out.cell (bL w _ hw373_1)).trans hw373_1), ((HB.out.cell (bL w _ hw373_2)).trans hw373_2), ((HB.out.cell (bL w _ hw374_0)).trans hw374_0), ((HB.out.cell (bL w _ hw374_1)).trans hw374_1), ((HB.out.cell (bL w _ hw374_2)).trans hw374_2)⟩ (fun hHeld => ?_); refine with_tabW rundleref08_Pairs.tab5 rundleref08_Pairs.bits5 (fun HT_ HW_ => ?_)
         generalize wr.drew = w14 at HO_7 BK372 HB hx373_0 hx373_1 hx373_2 hx374_0 hx374_1 hx374_2 hHeld ⊢
         refine pure_ (i := 0) (N := some 15) (v := ?_) (a' := ?_) q14_1 rfl rfl (any_of HT_.out (by kernel_rfl)) (fun _ _ _ h => h) (Or.inl ⟨by rfl, ?_⟩) ?_ ?_
         rotate_left
         ·
          intro w'
          go_simp
          with_reducible rfl
         rotate_left
         ·
          simp only [Act.put, s1, s2, s3, i64_w, i32_w]
          rfl
         refine pure_ (i := 1) (N := some 16) (v := ?_) (a' := ?_) q14_2 rfl rfl (any_of HT_.out (by kernel_rfl)) (fun _ _ _ h => h) (Or.inl ⟨by rfl, ?_⟩) ?_ ?_
         rotate_left
         ·
          intro w'
          go_simp
          with_reducible rfl
         rotate_left
         ·
          simp only [Act.put, s1, s2, s3, i64_w, i32_w]
          rfl
         refine pure_ (i := 2) (N := some 17) (v := ?_) (a' := ?_) q14_3 rfl rfl (any_of HT_.out (by kernel_rfl)) (fun _ _ _ h => h) (Or.inl ⟨by rfl, ?_⟩) ?_ ?_
         rotate_left
         ·
          intro w'
          go_simp
          with_reducible rfl
         rotate_left
         ·
          simp only [Act.put, s1, s2, s3, i64_w, i32_w]
          rfl
         refine pure_ (i := 3) (N := some 18) (v := ?_) (a' := ?_) q14_4 rfl rfl (any_of HT_.out (by kernel_rfl)) (fun _ _ _ h => h) (Or.inl ⟨by rfl, ?_⟩) ?_ ?_
         rotate_left
         ·
          intro w'
          go_simp
          with_reducible rfl
         rotate_left
         ·
          simp only [Act.put, s1, s2, s3, i64_w, i32_w]
          rfl
         refine take_ (i := 4) (N := some 19) (v := ?_) (a' := ?_) q14_5 rfl rfl (take_ofW HT_.out HW_.out (by kernel_rfl)) (fun _ _ _ h => h) (Or.inl ⟨by rfl, ?_⟩) hHeld ?_ ?_
         rotate_left
         ·
          rintro w' ⟨s0, s1, s2, s3, s4, s5, s6, s7, s8⟩
          go_simp
          with_reducible rfl
         rotate_left
         ·
          simp only [Act.put, s1, s2, s3, i64_w, i32_w]
          rfl
         refine pure_ (i := 5) (N := some 20) (v := ?_) (a' := ?_) q14_6 rfl rfl (any_of HT_.out (by kernel_rfl)) (fun _ _ _ h => h) (Or.inl ⟨by rfl, ?_⟩) ?_ ?_
         rotate_left
         ·
          intro w'
          go_simp
          with_reducible rfl
         rotate_left
         ·
          simp only [Act.put, s1, s2, s3, i64_w, i32_w]
          rfl
         refine pure_ (i := 6) (N := some 21) (v := ?_) (a' := ?_) q14_7 rfl rfl (any_of HT_.out (by kernel_rfl)) (fun _ _ _ h => h) (Or.inl ⟨by rfl, ?_⟩) ?_ ?_
         rotate_left
         ·
          intro w'
          go_simp
          with_reducible rfl
         rotate_left
         ·
          simp only [Act.put, s1, s2, s3, i64_w, i32_w]
          rfl
         refine pure_ (i := 8) (N := some 23) (v := ?_) (a' := ?_) q14_22 rfl rfl (any_of HT_.out (by kernel_rfl)) (fun _ _ _ h => h) (Or.inl ⟨by rfl, ?_⟩) ?_ ?_
         rotate_left
         ·
          intro w'
          go_simp
          with_reducible rfl
         rotate_left
         ·
          simp only [Act.put, s1, s2, s3, i64_w, i32_w]
          rfl
         refine pure_ (i := 9) (N := some 24) (v := ?_) (a' := ?_) q14_23 rfl rfl (any_of HT_.out (by kernel_rfl)) (fun _ _ _ h => h) (Or.inl ⟨by rfl, ?_⟩) ?_ ?_
         rotate_left
         ·
          intro w'
          go_simp
          with_reducible rfl
         rotate_left
         ·
          simp only [Act.put, s1, s2, s3, i64_w, i32_w]
          rfl
         refine pure_ (i := 10) (N := some 25) (v := ?_) (a' := ?_) q14_24 rfl rfl (any_of HT_.out (by kernel_rfl)) (fun _ _ _ h => h) (Or.inl ⟨by rfl, ?_⟩) ?_ ?_
         rotate_left
         ·
          intro w'
          go_simp
          with_reducible rfl
         rotate_left
         ·
          simp only [Act.put, s1, s2, s3, i64_w, i32_w]
          rfl
         refine pure_ (i := 11) (N := some 26) (v := ?_) (a' := ?_) q14_25 rfl rfl (any_of HT_.out (by kernel_rfl)) (fun _ _ _ h => h) (Or.inl ⟨by rfl, ?_⟩) ?_ ?_
         rotate_left
         ·
          intro w'
          go_simp
          with_reducible rfl
         rotate_left
         ·
          simp only [Act.put, s1, s2, s3, i64_w, i32_w]
          rfl
         refine take_ (i := 7) (N := some 22) (v := ?_) (a' := ?_) q14_12 rfl rfl (take_ofW HT_.out HW_.out (by kernel_rfl)) (fun _ _ _ h => h) (Or.inl ⟨by rfl, ?_⟩) hHeld ?_ ?_
         rotate_left
         ·
          rintro w' ⟨s0, s1, s2, s3, s4, s5, s6, s7, s8⟩
          go_simp
          with_reducible rfl
         rotate_left
         ·
          simp only [Act.put, s1, s2, s3, i64_w, i32_w]
          rfl
         refine take_ (i := 12) (N := some 27) (v := ?_) (a' := ?_) q14_13 rfl rfl (take_ofW HT_.out HW_.out (by kernel_rfl)) (fun _ _ _ h => h) (Or.inl ⟨by rfl, ?_⟩) hHeld ?_ ?_
         rotate_left
         ·
          rintro w' ⟨s0, s1, s2, s3, s4, s5, s6, s7, s8⟩
          go_simp
          with_reducible rfl
         rotate_left
         ·
          simp only [Act.put, s1, s2, s3, i64_w, i32_w]
          rfl
         refine one_ (i := 13) (N := some 28) q14_14 rfl rfl (one_of HT_.out (by kernel_rfl)) (by decide) (fun K hK => ?_)
         refine goes_ Try.func58 (by kernel_rfl) rfl #[.agg #[.string a1_0, .string a1_1, .bool a1_2], .string ((rd_T62 l0 x8_1).f0)] (by rfl) rfl rfl (by (try simp only [List.map_toArray, List.map_cons, List.map_nil]); first | done | rfl | (simp only [lD, lT]; rfl)) ?_
         with_reducible refine (rundleref04_Has.calls k1 a1_0 a1_1 a1_2 ((rd_T62 l0 x8_1).f0) true _ A10.out).mono ?_
         rintro e w15 ⟨rfl, hb⟩
         refine ⟨_, rfl, ?_⟩
         have n0_ := K0 (rB (by (with_reducible repeat (first | apply rA | apply rN | apply rD)); exact HO_7.out) hb)
         have n1_ := K0 (bB (g := gb372) (o := .cells #[.string a1_0, .string a1_1, .bool a1_2] 23 (0, 0)) (by (with_reducible repeat (first | refine bN ?_ _ | refine bD ?_ | refine bA ?_ _)); exact BK372.out) hb)
         have n2_ := K0 (below_step (by repeat (first | (with_reducible first | exact HB.out | apply wA | apply wN | apply wD | refine wS ?_ GE372.out) | exact HB.out)) hb)
         clear HO_7
         clear BK372
         clear HB
         have HO_7 := n0_
         have BK372 := n1_
         have HB := n2_
         clear n0_ n1_ n2_
         (try clear hb)
         (try clear hb2)
         (try clear hk)
         (try clear hi)
         obtain ⟨Ao16, co16, eo16⟩ := Kd.R_slice HO_7.out
         (first | subst eo16 | (injection eo16 with f1_ f2_ f3_; have f4_ := f1_.symm; have f5_ := f3_.symm; clear f1_ f2_ f3_; subst f4_; subst f5_))
         refine hK.out _ _ ⟨(bC BK372.out 0).trans rfl, (bC BK372.out 1).trans rfl, (bC BK372.out 2).trans rfl, ((HB.out.cell (bL w _ hw373_0)).trans hw373_0), ((HB.out.cell (bL w _ hw373_1)).trans hw373_1), ((HB.out.cell (bL w _ hw373_2)).trans hw373_2), ((HB.out.cell (bL w _ hw374_0)).trans hw374_0), ((HB.out.cell (bL w _ hw374_1)).trans hw374_1), ((HB.out.cell (bL w _ hw374_2)).trans hw374_2)⟩ (fun hHeld => ?_)
         clear hK K
         refine norm_ (a' := ?_) ?_ ?_
         rotate_left
         ·
          show Act.put _ (some 28) _ = _
          simp only [Act.put, s1, s2, s3, i64_w, i32_w]
          rfl
         refine pure_ (i := 14) (N := some 29) (v := ?_) (a' := ?_) q14_15 rfl rfl (any_of HT_.out (by kernel_rfl)) (fun _ _ _ h => h) (Or.inl ⟨by rfl, ?_⟩) ?_ ?_
         rotate_left
         ·
          intro w'
          go_simp
          with_reducible rfl
         rotate_left
         ·
          simp only [Act.put, s1, s2, s3, i64_w, i32_w]
          rfl
         refine pure_ (i := 15) (N := some 30) (v := ?_) (a' := ?_) q14_16 rfl rfl (any_of HT_.out (by kernel_rfl)) (fun _ _ _ h => h) (Or.inl ⟨by rfl, ?_⟩) ?_ ?_
         rotate_left
         ·
          intro w'
          go_simp
          with_reducible rfl
         rotate_left
         ·
          simp only [Act.put, s1, s2, s3, i64_w, i32_w]
          rfl
         refine pure_ (i := 16) (N := some 31) (v := ?_) (a' := ?_) q14_17 rfl rfl (any_of HT_.out (by kernel_rfl)) (fun _ _ _ h => h) (Or.inl ⟨by rfl, ?_⟩) ?_ ?_
         rotate_left
         ·
          intro w'
          go_simp
          with_reducible rfl
         rotate_left
         ·
          simp only [Act.put, s1, s2, s3, i64_w, i32_w]
          rfl
         refine pure_ (i := 17) (N := some 32) (v := ?_) (a' := ?_) q14_18 rfl rfl (any_of HT_.out (by kernel_rfl)) (fun _ _ _ h => h) (Or.inl ⟨by rfl, ?_⟩) ?_ ?_
         rotate_left
         ·
          intro w'
          go_simp
          with_reducible rfl
         rotate_left
         ·
          simp only [Act.put, s1, s2, s3, i64_w, i32_w]
          rfl
         refine pure_ (i := 18) (N := some 33) (v := ?_) (a' := ?_) q14_19 rfl rfl (any_of HT_.out (by kernel_rfl)) (fun _ _ _ h => h) (Or.inl ⟨by rfl, ?_⟩) ?_ ?_
         rotate_left
         ·
          intro w'
          go_simp
          with_reducible rfl
         rotate_left
         ·
          simp only [Act.put, s1, s2, s3, i64_w, i32_w]
          rfl
         refine pure_ (i := 19) (N := some 34) (v := ?_) (a' := ?_) q14_20 rfl rfl (any_of HT_.out (by kernel_rfl)) (fun _ _ _ h => h) (Or.inl ⟨by rfl, ?_⟩) ?_ ?_
         rotate_left
         ·
          intro w'
          go_simp
          with_reducible rfl
         rotate_left
         ·
          simp only [Act.put, s1, s2, s3, i64_w, i32_w]
          rfl
         refine pure_ (i := 20) (N := some 35) (v := ?_) (a' := ?_) q14_21 rfl rfl (any_of HT_.out (by kernel_rfl)) (fun _ _ _ h => h) (Or.inl ⟨by rfl, ?_⟩) ?_ ?_
         rotate_left
         ·
          intro w'
          go_simp
          with_reducible rfl
         rotate_left
         ·
          simp only [Act.put, s1, s2, s3, i64_w, i32_w]
          rfl
         refine done_ (done_of HT_.out (by kernel_rfl)) ?_
         try go_wp2
         have n0_ := K0 (rD HO_7.out)
         have n1_ := K0 (bD BK372.out)
         have n2_ := K0 (wD HB.out)
         clear HO_7
         clear BK372
         clear HB
         have HO_7 := n0_
         have BK372 := n1_
         have HB := n2_
         clear n0_ n1_ n2_
         have p376 : 0 ≤ (x8_1 : Int) := oT (by first | (with_reducible assumption) | assumption)
         have q376 : x8_1 < (l0.length : Int) := oT (by first | (with_reducible assumption) | assumption)
         obtain ⟨ad376, e376, hx376_0, hx376_1, hx376_2⟩ := at_T62 HR0.out x8_1 p376 q376
         have hw376_2 := hx376_2
         have hw376_1 := hx376_1
         have hw376_0 := hx376_0
         (try rw [← Nbq7.out] at hx376_2)
         (try rw [← Nbq7.out] at hw376_2)
         obtain rfl : ad373 = ad376 := (by injection e376)
         replace hx376_0 := (HB.out.cell (bL w _ hx376_0)).trans hx376_0
         replace hx376_1 := (HB.out.cell (bL w _ hx376_1)).trans hx376_1
         replace hx376_2 := (HB.out.cell (bL w _ hx376_2)).trans hx376_2
         replace p376 := eq_true p376
         replace q376 := eq_true q376
         have p377 : 0 ≤ (x8_1 : Int) := oT (by first | (with_reducible assumption) | assumption)
         have q377 : x8_1 < (l0.length : Int) := oT (by first | (with_reducible assumption) | assumption)
         obtain ⟨ad377, e377, hx377_0, hx377_1, hx377_2⟩ := at_T62 HR0.out x8_1 p377 q377
         have hw377_2 := hx377_2
         have hw377_1 := hx377_1
         have hw377_0 := hx377_0
         (try rw [← Nbq7.out] at hx377_2)
         (try rw [← Nbq7.out] at hw377_2)
         obtain rfl : ad373 = ad377 := (by injection e377)
         replace hx377_0 := (HB.out.cell (bL w _ hx377_0)).trans hx377_0
         replace hx377_1 := (HB.out.cell (bL w _ hx377_1)).trans hx377_1
         replace hx377_2 := (HB.out.cell (bL w _ hx377_2)).trans hx377_2
         replace p377 := eq_true p377
         replace q377 := eq_true q377
         refine start_ (n := 15) (S := fun w' => w'.cell? (ad373.add ((x8_1).toNat * 3)) = some (.string ((rd_T62 l0 x8_1).f0)) ∧ w'.cell? ⟨(ad373.add ((x8_1).toNat * 3)).block, (ad373.add ((x8_1).toNat * 3)).off + 1, none⟩ = some (.string ((rd_T62 l0 x8_1).f1)) ∧ w'.cell? ⟨(ad373.add ((x8_1).toNat * 3)).block, (ad373.add ((x8_1).toNat * 3)).off + 2, none⟩ = some (.bool (false)) ∧ w'.cell? (ad373.add ((x8_1).toNat * 3)) = some (.string ((rd_T62 l0 x8_1).f0)) ∧ w'.cell? ⟨(ad373.add ((x8_1).toNat * 3)).block, (ad373.add ((x8_1).toNat * 3)).off + 1, none⟩ = some (.string ((rd_T62 l0 x8_1).f1)) ∧ w'.cell? ⟨(ad373.add ((x8_1).toNat * 3)).block, (ad373.add ((x8_1).toNat * 3)).off + 2, none⟩ = some (.bool (false))) (ds := []) q14_26 (by kernel_rfl) rfl rfl ⟨((HB.out.cell (bL w _ hw376_0)).trans hw376_0), ((HB.out.cell (bL w _ hw376_1)).trans hw376_1), ((HB.out.cell (bL w _ hw376_2)).trans hw376_2), ((HB.out.cell (bL w _ hw377_0)).trans hw377_0), ((HB.out.cell (bL w _ hw377_1)).trans hw377_1), ((HB.out.cell (bL w _ hw377_2)).trans hw377_2)⟩ (fun hHeld => ?_); refine with_tabW rundleref08_Pairs.tab6 rundleref08_Pairs.bits6 (fun HT_ HW_ => ?_)
         generalize w15.drew = w17 at HO_7 BK372 HB hx376_0 hx376_1 hx376_2 hx377_0 hx377_1 hx377_2 hHeld ⊢
         refine pure_ (i := 0) (N := some 36) (v := ?_) (a' := ?_) q14_27 rfl rfl (any_of HT_.out (by kernel_rfl)) (fun _ _ _ h => h) (Or.inl ⟨by rfl, ?_⟩) ?_ ?_
         rotate_left
         ·
          intro w'
          go_simp
          with_reducible rfl
         rotate_left
         ·
          simp only [Act.put, s1, s2, s3, i64_w, i32_w]
          rfl
         refine pure_ (i := 1) (N := some 37) (v := ?_) (a' := ?_) q14_28 rfl rfl (any_of HT_.out (by kernel_rfl)) (fun _ _ _ h => h) (Or.inl ⟨by rfl, ?_⟩) ?_ ?_
         rotate_left
         ·
          intro w'
          go_simp
          with_reducible rfl
         rotate_left
         ·
          simp only [Act.put, s1, s2, s3, i64_w, i32_w]
          rfl
         refine pure_ (i := 2) (N := some 38) (v := ?_) (a' := ?_) q14_29 rfl rfl (any_of HT_.out (by kernel_rfl)) (fun _ _ _ h => h) (Or.inl ⟨by rfl, ?_⟩) ?_ ?_
         rotate_left
         ·
          intro w'
          go_simp
          with_reducible rfl
         rotate_left
         ·
          simp only [Act.put, s1, s2, s3, i64_w, i32_w]
          rfl
         refine pure_ (i := 3) (N := some 39) (v := ?_) (a' := ?_) q14_30 rfl rfl (any_of HT_.out (by kernel_rfl)) (fun _ _ _ h => h) (Or.inl ⟨by rfl, ?_⟩) ?_ ?_
         rotate_left
         ·
          intro w'
          go_simp
          with_reducible rfl
         rotate_left
         ·
          simp only [Act.put, s1, s2, s3, i64_w, i32_w]
          rfl
         refine pure_ (i := 4) (N := some 40) (v := ?_) (a' := ?_) q14_31 rfl rfl (any_of HT_.out (by kernel_rfl)) (fun _ _ _ h => h) (Or.inl ⟨by rfl, ?_⟩) ?_ ?_
         rotate_left
         ·
          intro w'
          go_simp
          with_reducible rfl
         rotate_left
         ·
          simp only [Act.put, s1, s2, s3, i64_w, i32_w]
          rfl
         refine pure_ (i := 6) (N := some 42) (v := ?_) (a' := ?_) q14_32 rfl rfl (any_of HT_.out (by kernel_rfl)) (fun _ _ _ h => h) (Or.inl ⟨by rfl, ?_⟩) ?_ ?_
         rotate_left
         ·
          intro w'
          go_simp
          with_reducible rfl
         rotate_left
         ·
          simp only [Act.put, s1, s2, s3, i64_w, i32_w]
          rfl
         refine pure_ (i := 7) (N := some 43) (v := ?_) (a' := ?_) q14_33 rfl rfl (any_of HT_.out (by kernel_rfl)) (fun _ _ _ h => h) (Or.inl ⟨by rfl, ?_⟩) ?_ ?_
         rotate_left
         ·
          intro w'
          go_simp
          with_reducible rfl
         rotate_left
         ·
          simp only [Act.put, s1, s2, s3, i64_w, i32_w]
          rfl
         refine pure_ (i := 8) (N := some 44) (v := ?_) (a' := ?_) q14_34 rfl rfl (any_of HT_.out (by kernel_rfl)) (fun _ _ _ h => h) (Or.inl ⟨by rfl, ?_⟩) ?_ ?_
         rotate_left
         ·
          intro w'
          go_simp
          with_reducible rfl
         rotate_left
         ·
          simp only [Act.put, s1, s2, s3, i64_w, i32_w]
          rfl
         refine pure_ (i := 9) (N := some 45) (v := ?_) (a' := ?_) q14_35 rfl rfl (any_of HT_.out (by kernel_rfl)) (fun _ _ _ h => h) (Or.inl ⟨by rfl, ?_⟩) ?_ ?_
         rotate_left
         ·
          intro w'
          go_simp
          with_reducible rfl
         rotate_left
         ·
          simp only [Act.put, s1, s2, s3, i64_w, i32_w]
          rfl
         refine take_ (i := 5) (N := some 41) (v := ?_) (a' := ?_) q14_36 rfl rfl (take_ofW HT_.out HW_.out (by kernel_rfl)) (fun _ _ _ h => h) (Or.inl ⟨by rfl, ?_⟩) hHeld ?_ ?_
         rotate_left
         ·
          rintro w' ⟨s0, s1, s2, s3, s4, s5⟩
          go_simp
          with_reducible rfl
         rotate_left
         ·
          simp only [Act.put, s1, s2, s3, i64_w, i32_w]
          rfl
         refine take_ (i := 10) (N := some 46) (v := ?_) (a' := ?_) q14_37 rfl rfl (take_ofW HT_.out HW_.out (by kernel_rfl)) (fun _ _ _ h => h) (Or.inl ⟨by rfl, ?_⟩) hHeld ?_ ?_
         rotate_left
         ·
          rintro w' ⟨s0, s1, s2, s3, s4, s5⟩
          go_simp
          with_reducible rfl
         rotate_left
         ·
          simp only [Act.put, s1, s2, s3, i64_w, i32_w]
          rfl
         refine pure_ (i := 11) (N := some 47) (v := ?_) (a' := ?_) q14_38 rfl rfl (any_of HT_.out (by kernel_rfl)) (fun _ _ _ h => h) (Or.inl ⟨by rfl, ?_⟩) ?_ ?_
         rotate_left
         ·
          intro w'
          go_simp
          with_reducible rfl
         rotate_left
         ·
          simp only [Act.put, s1, s2, s3, i64_w, i32_w]
          rfl
         refine one_ (i := 12) (N := some 48) q14_39 rfl rfl (one_of HT_.out (by kernel_rfl)) (by decide) (fun K hK => ?_)
         refine value_ (w1 := ?_) (v := ?_) (by rfl) rfl ?_ ?_
         rotate_left 2
         ·
          go_simp
          constructor
          ·
           rfl
          ·
           rfl
         refine hK.out _ _ ⟨(World.cell?_alloc_lt _ _ _ (bL _ _ (((HB.out.cell (bL w _ hw376_0)).trans hw376_0)))).trans (((HB.out.cell (bL w _ hw376_0)).trans hw376_0)), (World.cell?_alloc_lt _ _ _ (bL _ _ (((HB.out.cell (bL w _ hw376_1)).trans hw376_1)))).trans (((HB.out.cell (bL w _ hw376_1)).trans hw376_1)), (World.cell?_alloc_lt _ _ _ (bL _ _ (((HB.out.cell (bL w _ hw376_2)).trans hw376_2)))).trans (((HB.out.cell (bL w _ hw376_2)).trans hw376_2)), (World.cell?_alloc_lt _ _ _ (bL _ _ (((HB.out.cell (bL w _ hw377_0)).trans hw377_0)))).trans (((HB.out.cell (bL w _ hw377_0)).trans hw377_0)), (World.cell?_alloc_lt _ _ _ (bL _ _ (((HB.out.cell (bL w _ hw377_1)).trans hw377_1)))).trans (((HB.out.cell (bL w _ hw377_1)).trans hw377_1)), (World.cell?_alloc_lt _ _ _ (bL _ _ (((HB.out.cell (bL w _ hw377_2)).trans hw377_2)))).trans (((HB.out.cell (bL w _ hw377_2)).trans hw377_2))⟩ (fun hHeld => ?_)
         clear hK K
         refine norm_ (a' := ?_) ?_ ?_
         rotate_left
         ·
          show Act.put _ (some 48) _ = _
          simp only [Act.put, s1, s2, s3, i64_w, i32_w]
          rfl
         refine one_ (i := 13) (N := some 49) q14_40 rfl rfl (one_of HT_.out (by kernel_rfl)) (by decide) (fun K hK => ?_)
         refine Kd.R_append_step k130 (w0 := w) w.heap.size (by rfl) (.tmp 36) (.tmp 48) 58 130 (.agg #[(.string ⟨#[]⟩), (.string ⟨#[]⟩)]) 32 rfl Try.underlying58 info130 rfl (by decide) (by omega) (.slice Ao16 x7_1.length co16) x7_1 (⟨(rd_T62 l0 x8_1).f0, (rd_T62 l0 x8_1).f1⟩ : S130) [.string ((rd_T62 l0 x8_1).f0), .string ((rd_T62 l0 x8_1).f1)] (fun _ => True) (fun _ => False) rfl rfl ?aP (fun _ hk => hk.elim) ?aF ?aO ?aB ?aS ?aL ?_
         (case aP => exact k130_mkM _ _ _ (⟨(rd_T62 l0 x8_1).f0, (rd_T62 l0 x8_1).f1⟩ : S130))
         (case aB => exact (by repeat (first | (with_reducible first | exact HB.out | apply wA | apply wN | apply wD | refine wS ?_ GE372.out) | exact HB.out)))
         (case aF => exact (fun _ _ => trivial))
         (case aO => exact (by (with_reducible repeat (first | apply rA | apply rN | apply rD)); exact HO_7.out))
         (case aS => exact (below_size (by repeat (first | (with_reducible first | exact HB.out | apply wA | apply wN | apply wD | refine wS ?_ GE372.out) | exact HB.out))))
         (case aL => have := LMc13.out; omega)
         intro v379 w18 ho hb hg hat
         rw [← Ny378.out] at ho
         have n0_ := K0 (blk_grown (g := gb372) (o := .cells #[.string a1_0, .string a1_1, .bool a1_2] 23 (0, 0)) (by (with_reducible repeat (first | refine bN ?_ _ | refine bD ?_ | refine bA ?_ _)); exact BK372.out) hg (Kd.R_ne HO_7.out BK372.out (by decide)))
         have n1_ := K0 (hb)
         have n2_ := K0 (ho)
         clear BK372
         clear HB
         clear HO_7
         have BK372 := n0_
         have HB := n1_
         have HO380 := n2_
         clear n0_ n1_ n2_
         clear ho hb hg hat
         refine hK.out _ _ ⟨((HB.out.cell (bL w _ hw376_0)).trans hw376_0), ((HB.out.cell (bL w _ hw376_1)).trans hw376_1), ((HB.out.cell (bL w _ hw376_2)).trans hw376_2), ((HB.out.cell (bL w _ hw377_0)).trans hw377_0), ((HB.out.cell (bL w _ hw377_1)).trans hw377_1), ((HB.out.cell (bL w _ hw377_2)).trans hw377_2)⟩ (fun hHeld => ?_)
         clear hK K
         refine norm_ (a' := ?_) ?_ ?_
         rotate_left
         ·
          show Act.put _ (some 49) _ = _
          simp only [Act.put, s1, s2, s3, i64_w, i32_w]
          rfl
         refine pure_ (i := 14) (N := some 7) (v := ?_) (a' := ?_) q14_41 rfl rfl (any_of HT_.out (by kernel_rfl)) (fun _ _ _ h => h) (Or.inl ⟨by rfl, ?_⟩) ?_ ?_
         rotate_left
         ·
          intro w'
          go_simp
          with_reducible rfl
         rotate_left
         ·
          simp only [Act.put, s1, s2, s3, i64_w, i32_w]
          rfl
         refine done_ (done_of HT_.out (by kernel_rfl)) ?_
         try go_wp2
         go_roundg k1
         case measure => have := HK1.out; omega
         case rel => exact ⟨(y378), (wrap64 (x8_1 + 1)), (by first | rfl | (simp; done) | (simp [*]; done)), H', ⟨by have := HK1.out; omega⟩, ⟨by (with_reducible repeat (first | apply rA | apply rN | apply rD)); exact HO380.out⟩, ⟨by (with_reducible repeat (first | refine bN ?_ _ | refine bD ?_ | refine bA ?_ _)); exact BK372.out⟩, ⟨by repeat (first | (with_reducible first | exact HB.out | apply wA | apply wN | apply wD | refine wS ?_ GE372.out) | exact HB.out)⟩⟩
        ·
         rw [if_neg c13] at H
         exact absurd H (by simp)
       ·
        rw [if_neg c12] at H
        have c12b0 : decide ((x7_1.length : Int) < a2) = false := dF c12
        clear c12
        have H' := K0 H
        clear H
        try go_wp2
        have n0_ := K0 (rD HO_7.out)
        have n1_ := K0 (bD BK372.out)
        have n2_ := K0 (wD HB.out)
        clear HO_7
        clear BK372
        clear HB
        have HO_7 := n0_
        have BK372 := n1_
        have HB := n2_
        clear n0_ n1_ n2_
        have p373 : 0 ≤ (x8_1 : Int) := oT (by first | (with_reducible assumption) | assumption)
        have q373 : x8_1 < (l0.length : Int) := oT (by first | (with_reducible assumption) | assumption)
        obtain ⟨ad373, e373, hx373_0, hx373_1, hx373_2⟩ := at_T62 HR0.out x8_1 p373 q373
        have hw373_2 := hx373_2
        have hw373_1 := hx373_1
        have hw373_0 := hx373_0
        (try rw [← Nbq7.out] at hx373_2)
        (try rw [← Nbq7.out] at hw373_2)
        cases e373
        replace hx373_0 := (HB.out.cell (bL w _ hx373_0)).trans hx373_0
        replace hx373_1 := (HB.out.cell (bL w _ hx373_1)).trans hx373_1
        replace hx373_2 := (HB.out.cell (bL w _ hx373_2)).trans hx373_2
        replace p373 := eq_true p373
        replace q373 := eq_true q373
        have p374 : 0 ≤ (x8_1 : Int) := oT (by first | (with_reducible assumption) | assumption)
        have q374 : x8_1 < (l0.length : Int) := oT (by first | (with_reducible assumption) | assumption)
        obtain ⟨ad374, e374, hx374_0, hx374_1, hx374_2⟩ := at_T62 HR0.out x8_1 p374 q374
        have hw374_2 := hx374_2
        have hw374_1 := hx374_1
        have hw374_0 := hx374_0
        (try rw [← Nbq7.out] at hx374_2)
        (try rw [← Nbq7.out] at hw374_2)
        obtain rfl : ad373 = ad374 := (by injection e374)
        replace hx374_0 := (HB.out.cell (bL w _ hx374_0)).trans hx374_0
        replace hx374_1 := (HB.out.cell (bL w _ hx374_1)).trans hx374_1
        replace hx374_2 := (HB.out.cell (bL w _ hx374_2)).trans hx374_2
        replace p374 := eq_true p374
        replace q374 := eq_true q374
        refine start_ (n := 21) (S := fun w' => w'.cell? ⟨gb372, 0, none⟩ = some (.string a1_0) ∧ w'.cell? ⟨gb372, 1, none⟩ = some (.string a1_1) ∧ w'.cell? ⟨gb372, 2, none⟩ = some (.bool a1_2) ∧ w'.cell? (ad373.add ((x8_1).toNat * 3)) = some (.string ((rd_T62 l0 x8_1).f0)) ∧ w'.cell? ⟨(ad373.add ((x8_1).toNat * 3)).block, (ad373.add ((x8_1).toNat * 3)).off + 1, none⟩ = some (.string ((rd_T62 l0 x8_1).f1)) ∧ w'.cell? ⟨(ad373.add ((x8_1).toNat * 3)).block, (ad373.add ((x8_1).toNat * 3)).off + 2, none⟩ = some (.bool false) ∧ w'.cell? (ad373.add ((x8_1).toNat * 3)) = some (.string ((rd_T62 l0 x8_1).f0)) ∧ w'.cell? ⟨(ad373.add ((x8_1).toNat * 3)).block, (ad373.add ((x8_1).toNat * 3)).off + 1, none⟩ = some (.string ((rd_T62 l0 x8_1).f1)) ∧ w'.cell? ⟨(ad373.add ((x8_1).toNat * 3)).block, (ad373.add ((x8_1).toNat * 3)).off + 2, none⟩ = some (.bool (false))) (ds := []) q14_0 (by kernel_rfl) rfl rfl ⟨(bC BK372.out 0).trans rfl, (bC BK372.out 1).trans rfl, (bC BK372.out 2).trans rfl, ((HB.out.cell (bL w _ hw373_0)).trans hw373_0), ((HB.out.cell (bL w _ hw373_1)).trans hw373_1), ((HB.out.cell (bL w _ hw373_2)).trans hw373_2), ((HB.out.cell (bL w _ hw374_0)).trans hw374_0), ((HB.out.cell (bL w _ hw374_1)).trans hw374_1), ((HB.out.cell (bL w _ hw374_2)).trans hw374_2)⟩ (fun hHeld => ?_); refine with_tabW rundleref08_Pairs.tab5 rundleref08_Pairs.bits5 (fun HT_ HW_ => ?_)
        generalize wr.drew = w19 at HO_7 BK372 HB hx373_0 hx373_1 hx373_2 hx374_0 hx374_1 hx374_2 hHeld ⊢
        refine pure_ (i := 0) (N := some 15) (v := ?_) (a' := ?_) q14_1 rfl rfl (any_of HT_.out (by kernel_rfl)) (fun _ _ _ h => h) (Or.inl ⟨by rfl, ?_⟩) ?_ ?_
        rotate_left
        ·
         intro w'
         go_simp
         with_reducible rfl
        rotate_left
        ·
         simp only [Act.put, s1, s2, s3, i64_w, i32_w]
         rfl
        refine pure_ (i := 1) (N := some 16) (v := ?_) (a' := ?_) q14_2 rfl rfl (any_of HT_.out (by kernel_rfl)) (fun _ _ _ h => h) (Or.inl ⟨by rfl, ?_⟩) ?_ ?_
        rotate_left
        ·
         intro w'
         go_simp
         with_reducible rfl
        rotate_left
        ·
         simp only [Act.put, s1, s2, s3, i64_w, i32_w]
         rfl
        refine pure_ (i := 2) (N := some 17) (v := ?_) (a' := ?_) q14_3 rfl rfl (any_of HT_.out (by kernel_rfl)) (fun _ _ _ h => h) (Or.inl ⟨by rfl, ?_⟩) ?_ ?_
        rotate_left
        ·
         intro w'
         go_simp
         with_reducible rfl
        rotate_left
        ·
         simp only [Act.put, s1, s2, s3, i64_w, i32_w]
         rfl
        refine pure_ (i := 3) (N := some 18) (v := ?_) (a' := ?_) q14_4 rfl rfl (any_of HT_.out (by kernel_rfl)) (fun _ _ _ h => h) (Or.inl ⟨by rfl, ?_⟩) ?_ ?_
        rotate_left
        ·
         intro w'
         go_simp
         with_reducible rfl
        rotate_left
        ·
         simp only [Act.put, s1, s2, s3, i64_w, i32_w]
         rfl
        refine take_ (i := 4) (N := some 19) (v := ?_) (a' := ?_) q14_5 rfl rfl (take_ofW HT_.out HW_.out (by kernel_rfl)) (fun _ _ _ h => h) (Or.inl ⟨by rfl, ?_⟩) hHeld ?_ ?_
        rotate_left
        ·
         rintro w' ⟨s0, s1, s2, s3, s4, s5, s6, s7, s8⟩
         go_simp
         with_reducible rfl
        rotate_left
        ·
         simp only [Act.put, s1, s2, s3, i64_w, i32_w]
         rfl
        refine pure_ (i := 5) (N := some 20) (v := ?_) (a' := ?_) q14_6 rfl rfl (any_of HT_.out (by kernel_rfl)) (fun _ _ _ h => h) (Or.inl ⟨by rfl, ?_⟩) ?_ ?_
        rotate_left
        ·
         intro w'
         go_simp
         with_reducible rfl
        rotate_left
        ·
         simp only [Act.put, s1, s2, s3, i64_w, i32_w]
         rfl
        refine pure_ (i := 6) (N := some 21) (v := ?_) (a' := ?_) q14_7 rfl rfl (any_of HT_.out (by kernel_rfl)) (fun _ _ _ h => h) (Or.inl ⟨by rfl, ?_⟩) ?_ ?_
        rotate_left
        ·
         intro w'
         go_simp
         with_reducible rfl
        rotate_left
        ·
         simp only [Act.put, s1, s2, s3, i64_w, i32_w]
         rfl
        refine pure_ (i := 8) (N := some 23) (v := ?_) (a' := ?_) q14_22 rfl rfl (any_of HT_.out (by kernel_rfl)) (fun _ _ _ h => h) (Or.inl ⟨by rfl, ?_⟩) ?_ ?_
        rotate_left
        ·
         intro w'
         go_simp
         with_reducible rfl
        rotate_left
        ·
         simp only [Act.put, s1, s2, s3, i64_w, i32_w]
         rfl
        refine pure_ (i := 9) (N := some 24) (v := ?_) (a' := ?_) q14_23 rfl rfl (any_of HT_.out (by kernel_rfl)) (fun _ _ _ h => h) (Or.inl ⟨by rfl, ?_⟩) ?_ ?_
        rotate_left
        ·
         intro w'
         go_simp
         with_reducible rfl
        rotate_left
        ·
         simp only [Act.put, s1, s2, s3, i64_w, i32_w]
         rfl
        refine pure_ (i := 10) (N := some 25) (v := ?_) (a' := ?_) q14_24 rfl rfl (any_of HT_.out (by kernel_rfl)) (fun _ _ _ h => h) (Or.inl ⟨by rfl, ?_⟩) ?_ ?_
        rotate_left
        ·
         intro w'
         go_simp
         with_reducible rfl
        rotate_left
        ·
         simp only [Act.put, s1, s2, s3, i64_w, i32_w]
         rfl
        refine pure_ (i := 11) (N := some 26) (v := ?_) (a' := ?_) q14_25 rfl rfl (any_of HT_.out (by kernel_rfl)) (fun _ _ _ h => h) (Or.inl ⟨by rfl, ?_⟩) ?_ ?_
        rotate_left
        ·
         intro w'
         go_simp
         with_reducible rfl
        rotate_left
        ·
         simp only [Act.put, s1, s2, s3, i64_w, i32_w]
         rfl
        refine take_ (i := 7) (N := some 22) (v := ?_) (a' := ?_) q14_12 rfl rfl (take_ofW HT_.out HW_.out (by kernel_rfl)) (fun _ _ _ h => h) (Or.inl ⟨by rfl, ?_⟩) hHeld ?_ ?_
        rotate_left
        ·
         rintro w' ⟨s0, s1, s2, s3, s4, s5, s6, s7, s8⟩
         go_simp
         with_reducible rfl
        rotate_left
        ·
         simp only [Act.put, s1, s2, s3, i64_w, i32_w]
         rfl
        refine take_ (i := 12) (N := some 27) (v := ?_) (a' := ?_) q14_13 rfl rfl (take_ofW HT_.out HW_.out (by kernel_rfl)) (fun _ _ _ h => h) (Or.inl ⟨by rfl, ?_⟩) hHeld ?_ ?_
        rotate_left
        ·
         rintro w' ⟨s0, s1, s2, s3, s4, s5, s6, s7, s8⟩
         go_simp
         with_reducible rfl
        rotate_left
        ·
         simp only [Act.put, s1, s2, s3, i64_w, i32_w]
         rfl
        refine one_ (i := 13) (N := some 28) q14_14 rfl rfl (one_of HT_.out (by kernel_rfl)) (by decide) (fun K hK => ?_)
        refine goes_ Try.func58 (by kernel_rfl) rfl #[.agg #[.string a1_0, .string a1_1, .bool a1_2], .string ((rd_T62 l0 x8_1).f0)] (by rfl) rfl rfl (by (try simp only [List.map_toArray, List.map_cons, List.map_nil]); first | done | rfl | (simp only [lD, lT]; rfl)) ?_
        with_reducible refine (rundleref04_Has.calls k1 a1_0 a1_1 a1_2 ((rd_T62 l0 x8_1).f0) true _ A10.out).mono ?_
        rintro e w20 ⟨rfl, hb⟩
        refine ⟨_, rfl, ?_⟩
        have n0_ := K0 (rB (by (with_reducible repeat (first | apply rA | apply rN | apply rD)); exact HO_7.out) hb)
        have n1_ := K0 (bB (g := gb372) (o := .cells #[.string a1_0, .string a1_1, .bool a1_2] 23 (0, 0)) (by (with_reducible repeat (first | refine bN ?_ _ | refine bD ?_ | refine bA ?_ _)); exact BK372.out) hb)
        have n2_ := K0 (below_step (by repeat (first | (with_reducible first | exact HB.out | apply wA | apply wN | apply wD | refine wS ?_ GE372.out) | exact HB.out)) hb)
        clear HO_7
        clear BK372
        clear HB
        have HO_7 := n0_
        have BK372 := n1_
        have HB := n2_
        clear n0_ n1_ n2_
        (try clear hb)
        (try clear hb2)
        (try clear hk)
        (try clear hi)
        obtain ⟨Ao21, co21, eo21⟩ := Kd.R_slice HO_7.out
        (first | subst eo21 | (injection eo21 with f1_ f2_ f3_; have f4_ := f1_.symm; have f5_ := f3_.symm; clear f1_ f2_ f3_; subst f4_; subst f5_))
        refine hK.out _ _ ⟨(bC BK372.out 0).trans rfl, (bC BK372.out 1).trans rfl, (bC BK372.out 2).trans rfl, ((HB.out.cell (bL w _ hw373_0)).trans hw373_0), ((HB.out.cell (bL w _ hw373_1)).trans hw373_1), ((HB.out.cell (bL w _ hw373_2)).trans hw373_2), ((HB.out.cell (bL w _ hw374_0)).trans hw374_0), ((HB.out.cell (bL w _ hw374_1)).trans hw374_1), ((HB.out.cell (bL w _ hw374_2)).trans hw374_2)⟩ (fun hHeld => ?_)
        clear hK K
        refine norm_ (a' := ?_) ?_ ?_
        rotate_left
        ·
         show Act.put _ (some 28) _ = _
         simp only [Act.put, s1, s2, s3, i64_w, i32_w]
         rfl
        refine pure_ (i := 14) (N := some 29) (v := ?_) (a' := ?_) q14_15 rfl rfl (any_of HT_.out (by kernel_rfl)) (fun _ _ _ h => h) (Or.inl ⟨by rfl, ?_⟩) ?_ ?_
        rotate_left
        ·
         intro w'
         go_simp
         with_reducible rfl
        rotate_left
        ·
         simp only [Act.put, s1, s2, s3, i64_w, i32_w]
         rfl
        refine pure_ (i := 15) (N := some 30) (v := ?_) (a' := ?_) q14_16 rfl rfl (any_of HT_.out (by kernel_rfl)) (fun _ _ _ h => h) (Or.inl ⟨by rfl, ?_⟩) ?_ ?_
        rotate_left
        ·
         intro w'
         go_simp
         with_reducible rfl
        rotate_left
        ·
         simp only [Act.put, s1, s2, s3, i64_w, i32_w]
         rfl
        refine pure_ (i := 16) (N := some 31) (v := ?_) (a' := ?_) q14_17 rfl rfl (any_of HT_.out (by kernel_rfl)) (fun _ _ _ h => h) (Or.inl ⟨by rfl, ?_⟩) ?_ ?_
        rotate_left
        ·
         intro w'
         go_simp
         with_reducible rfl
        rotate_left
        ·
         simp only [Act.put, s1, s2, s3, i64_w, i32_w]
         rfl
        refine pure_ (i := 17) (N := some 32) (v := ?_) (a' := ?_) q14_18 rfl rfl (any_of HT_.out (by kernel_rfl)) (fun _ _ _ h => h) (Or.inl ⟨by rfl, ?_⟩) ?_ ?_
        rotate_left
        ·
         intro w'
         go_simp
         with_reducible rfl
        rotate_left
        ·
         simp only [Act.put, s1, s2, s3, i64_w, i32_w]
         rfl
        refine pure_ (i := 18) (N := some 33) (v := ?_) (a' := ?_) q14_19 rfl rfl (any_of HT_.out (by kernel_rfl)) (fun _ _ _ h => h) (Or.inl ⟨by rfl, ?_⟩) ?_ ?_
        rotate_left
        ·
         intro w'
         go_simp
         with_reducible rfl
        rotate_left
        ·
         simp only [Act.put, s1, s2, s3, i64_w, i32_w]
         rfl
        refine pure_ (i := 19) (N := some 34) (v := ?_) (a' := ?_) q14_20 rfl rfl (any_of HT_.out (by kernel_rfl)) (fun _ _ _ h => h) (Or.inl ⟨by rfl, ?_⟩) ?_ ?_
        rotate_left
        ·
         intro w'
         go_simp
         with_reducible rfl
        rotate_left
        ·
         simp only [Act.put, s1, s2, s3, i64_w, i32_w]
         rfl
        refine pure_ (i := 20) (N := some 35) (v := ?_) (a' := ?_) q14_21 rfl rfl (any_of HT_.out (by kernel_rfl)) (fun _ _ _ h => h) (Or.inl ⟨by rfl, ?_⟩) ?_ ?_
        rotate_left
        ·
         intro w'
         go_simp
         with_reducible rfl
        rotate_left
        ·
         simp only [Act.put, s1, s2, s3, i64_w, i32_w]
         rfl
        refine done_ (done_of HT_.out (by kernel_rfl)) ?_
        try go_wp2
        go_roundg k1
        case measure => have := HK1.out; omega
        case rel => exact ⟨(x7_1), (wrap64 (x8_1 + 1)), (by first | rfl | (simp; done) | (simp [*]; done)), H', ⟨by have := HK1.out; omega⟩, ⟨by (with_reducible repeat (first | apply rA | apply rN | apply rD)); exact HO_7.out⟩, ⟨by (with_reducible repeat (first | refine bN ?_ _ | refine bD ?_ | refine bA ?_ _)); exact BK372.out⟩, ⟨by repeat (first | (with_reducible first | exact HB.out | apply wA | apply wN | apply wD | refine wS ?_ GE372.out) | exact HB.out)⟩⟩
      ·
       replace c11 := Bool.eq_false_iff.mpr c11
       subst c11
       have H1 : (rundleref08_Pairs.l0 k1 l0 a2 x7_1 (wrap64 (x8_1 + 1)) a1_0 a1_1 a1_2) = some r := by rw [if_neg (show ¬ (false = true) by decide)] at H; exact H
       clear H
       have H := H1
       clear H1
       have H' := K0 H
       clear H
       try go_wp2
       have n0_ := K0 (rD HO_7.out)
       have n1_ := K0 (bD BK372.out)
       have n2_ := K0 (wD HB.out)
       clear HO_7
       clear BK372
       clear HB
       have HO_7 := n0_
       have BK372 := n1_
       have HB := n2_
       clear n0_ n1_ n2_
       have p373 : 0 ≤ (x8_1 : Int) := oT (by first | (with_reducible assumption) | assumption)
       have q373 : x8_1 < (l0.length : Int) := oT (by first | (with_reducible assumption) | assumption)
       obtain ⟨ad373, e373, hx373_0, hx373_1, hx373_2⟩ := at_T62 HR0.out x8_1 p373 q373
       have hw373_2 := hx373_2
       have hw373_1 := hx373_1
       have hw373_0 := hx373_0
       (try rw [← Nbq7.out] at hx373_2)
       (try rw [← Nbq7.out] at hw373_2)
       cases e373
       replace hx373_0 := (HB.out.cell (bL w _ hx373_0)).trans hx373_0
       replace hx373_1 := (HB.out.cell (bL w _ hx373_1)).trans hx373_1
       replace hx373_2 := (HB.out.cell (bL w _ hx373_2)).trans hx373_2
       replace p373 := eq_true p373
       replace q373 := eq_true q373
       have p374 : 0 ≤ (x8_1 : Int) := oT (by first | (with_reducible assumption) | assumption)
       have q374 : x8_1 < (l0.length : Int) := oT (by first | (with_reducible assumption) | assumption)
       obtain ⟨ad374, e374, hx374_0, hx374_1, hx374_2⟩ := at_T62 HR0.out x8_1 p374 q374
       have hw374_2 := hx374_2
       have hw374_1 := hx374_1
       have hw374_0 := hx374_0
       (try rw [← Nbq7.out] at hx374_2)
       (try rw [← Nbq7.out] at hw374_2)
       obtain rfl : ad373 = ad374 := (by injection e374)
       replace hx374_0 := (HB.out.cell (bL w _ hx374_0)).trans hx374_0
       replace hx374_1 := (HB.out.cell (bL w _ hx374_1)).trans hx374_1
       replace hx374_2 := (HB.out.cell (bL w _ hx374_2)).trans hx374_2
       replace p374 := eq_true p374
       replace q374 := eq_true q374
       refine start_ (n := 21) (S := fun w' => w'.cell? ⟨gb372, 0, none⟩ = some (.string a1_0) ∧ w'.cell? ⟨gb372, 1, none⟩ = some (.string a1_1) ∧ w'.cell? ⟨gb372, 2, none⟩ = some (.bool a1_2) ∧ w'.cell? (ad373.add ((x8_1).toNat * 3)) = some (.string ((rd_T62 l0 x8_1).f0)) ∧ w'.cell? ⟨(ad373.add ((x8_1).toNat * 3)).block, (ad373.add ((x8_1).toNat * 3)).off + 1, none⟩ = some (.string ((rd_T62 l0 x8_1).f1)) ∧ w'.cell? ⟨(ad373.add ((x8_1).toNat * 3)).block, (ad373.add ((x8_1).toNat * 3)).off + 2, none⟩ = some (.bool false) ∧ w'.cell? (ad373.add ((x8_1).toNat * 3)) = some (.string ((rd_T62 l0 x8_1).f0)) ∧ w'.cell? ⟨(ad373.add ((x8_1).toNat * 3)).block, (ad373.add ((x8_1).toNat * 3)).off + 1, none⟩ = some (.string ((rd_T62 l0 x8_1).f1)) ∧ w'.cell? ⟨(ad373.add ((x8_1).toNat * 3)).block, (ad373.add ((x8_1).toNat * 3)).off + 2, none⟩ = some (.bool (false))) (ds := []) q14_0 (by kernel_rfl) rfl rfl ⟨(bC BK372.out 0).trans rfl, (bC BK372.out 1).trans rfl, (bC BK372.out 2).trans rfl, ((HB.out.cell (bL w _ hw373_0)).trans hw373_0), ((HB.out.cell (bL w _ hw373_1)).trans hw373_1), ((HB.out.cell (bL w _ hw373_2)).trans hw373_2), ((HB.out.cell (bL w _ hw374_0)).trans hw374_0), ((HB.out.cell (bL w _ hw374_1)).trans hw374_1), ((HB.out.cell (bL w _ hw374_2)).trans hw374_2)⟩ (fun hHeld => ?_); refine with_tabW rundleref08_Pairs.tab5 rundleref08_Pairs.bits5 (fun HT_ HW_ => ?_)
       generalize wr.drew = w22 at HO_7 BK372 HB hx373_0 hx373_1 hx373_2 hx374_0 hx374_1 hx374_2 hHeld ⊢
       refine pure_ (i := 0) (N := some 15) (v := ?_) (a' := ?_) q14_1 rfl rfl (any_of HT_.out (by kernel_rfl)) (fun _ _ _ h => h) (Or.inl ⟨by rfl, ?_⟩) ?_ ?_
       rotate_left
       ·
        intro w'
        go_simp
        with_reducible rfl
       rotate_left
       ·
        simp only [Act.put, s1, s2, s3, i64_w, i32_w]
        rfl
       refine pure_ (i := 1) (N := some 16) (v := ?_) (a' := ?_) q14_2 rfl rfl (any_of HT_.out (by kernel_rfl)) (fun _ _ _ h => h) (Or.inl ⟨by rfl, ?_⟩) ?_ ?_
       rotate_left
       ·
        intro w'
        go_simp
        with_reducible rfl
       rotate_left
       ·
        simp only [Act.put, s1, s2, s3, i64_w, i32_w]
        rfl
       refine pure_ (i := 2) (N := some 17) (v := ?_) (a' := ?_) q14_3 rfl rfl (any_of HT_.out (by kernel_rfl)) (fun _ _ _ h => h) (Or.inl ⟨by rfl, ?_⟩) ?_ ?_
       rotate_left
       ·
        intro w'
        go_simp
        with_reducible rfl
       rotate_left
       ·
        simp only [Act.put, s1, s2, s3, i64_w, i32_w]
        rfl
       refine pure_ (i := 3) (N := some 18) (v := ?_) (a' := ?_) q14_4 rfl rfl (any_of HT_.out (by kernel_rfl)) (fun _ _ _ h => h) (Or.inl ⟨by rfl, ?_⟩) ?_ ?_
       rotate_left
       ·
        intro w'
        go_simp
        with_reducible rfl
       rotate_left
       ·
        simp only [Act.put, s1, s2, s3, i64_w, i32_w]
        rfl
       refine take_ (i := 4) (N := some 19) (v := ?_) (a' := ?_) q14_5 rfl rfl (take_ofW HT_.out HW_.out (by kernel_rfl)) (fun _ _ _ h => h) (Or.inl ⟨by rfl, ?_⟩) hHeld ?_ ?_
       rotate_left
       ·
        rintro w' ⟨s0, s1, s2, s3, s4, s5, s6, s7, s8⟩
        go_simp
        with_reducible rfl
       rotate_left
       ·
        simp only [Act.put, s1, s2, s3, i64_w, i32_w]
        rfl
       refine pure_ (i := 5) (N := some 20) (v := ?_) (a' := ?_) q14_6 rfl rfl (any_of HT_.out (by kernel_rfl)) (fun _ _ _ h => h) (Or.inl ⟨by rfl, ?_⟩) ?_ ?_
       rotate_left
       ·
        intro w'
        go_simp
        with_reducible rfl
       rotate_left
       ·
        simp only [Act.put, s1, s2, s3, i64_w, i32_w]
        rfl
       refine pure_ (i := 6) (N := some 21) (v := ?_) (a' := ?_) q14_7 rfl rfl (any_of HT_.out (by kernel_rfl)) (fun _ _ _ h => h) (Or.inl ⟨by rfl, ?_⟩) ?_ ?_
       rotate_left
       ·
        intro w'
        go_simp
        with_reducible rfl
       rotate_left
       ·
        simp only [Act.put, s1, s2, s3, i64_w, i32_w]
        rfl
       refine pure_ (i := 8) (N := some 23) (v := ?_) (a' := ?_) q14_22 rfl rfl (any_of HT_.out (by kernel_rfl)) (fun _ _ _ h => h) (Or.inl ⟨by rfl, ?_⟩) ?_ ?_
       rotate_left
       ·
        intro w'
        go_simp
        with_reducible rfl
       rotate_left
       ·
        simp only [Act.put, s1, s2, s3, i64_w, i32_w]
        rfl
       refine pure_ (i := 9) (N := some 24) (v := ?_) (a' := ?_) q14_23 rfl rfl (any_of HT_.out (by kernel_rfl)) (fun _ _ _ h => h) (Or.inl ⟨by rfl, ?_⟩) ?_ ?_
       rotate_left
       ·
        intro w'
        go_simp
        with_reducible rfl
       rotate_left
       ·
        simp only [Act.put, s1, s2, s3, i64_w, i32_w]
        rfl
       refine pure_ (i := 10) (N := some 25) (v := ?_) (a' := ?_) q14_24 rfl rfl (any_of HT_.out (by kernel_rfl)) (fun _ _ _ h => h) (Or.inl ⟨by rfl, ?_⟩) ?_ ?_
       rotate_left
       ·
        intro w'
        go_simp
        with_reducible rfl
       rotate_left
       ·
        simp only [Act.put, s1, s2, s3, i64_w, i32_w]
        rfl
       refine pure_ (i := 11) (N := some 26) (v := ?_) (a' := ?_) q14_25 rfl rfl (any_of HT_.out (by kernel_rfl)) (fun _ _ _ h => h) (Or.inl ⟨by rfl, ?_⟩) ?_ ?_
       rotate_left
       ·
        intro w'
        go_simp
        with_reducible rfl
       rotate_left
       ·
        simp only [Act.put, s1, s2, s3, i64_w, i32_w]
        rfl
       refine take_ (i := 7) (N := some 22) (v := ?_) (a' := ?_) q14_12 rfl rfl (take_ofW HT_.out HW_.out (by kernel_rfl)) (fun _ _ _ h => h) (Or.inl ⟨by rfl, ?_⟩) hHeld ?_ ?_
       rotate_left
       ·
        rintro w' ⟨s0, s1, s2, s3, s4, s5, s6, s7, s8⟩
        go_simp
        with_reducible rfl
       rotate_left
       ·
        simp only [Act.put, s1, s2, s3, i64_w, i32_w]
        rfl
       refine take_ (i := 12) (N := some 27) (v := ?_) (a' := ?_) q14_13 rfl rfl (take_ofW HT_.out HW_.out (by kernel_rfl)) (fun _ _ _ h => h) (Or.inl ⟨by rfl, ?_⟩) hHeld ?_ ?_
       rotate_left
       ·
        rintro w' ⟨s0, s1, s2, s3, s4, s5, s6, s7, s8⟩
        go_simp
        with_reducible rfl
       rotate_left
       ·
        simp only [Act.put, s1, s2, s3, i64_w, i32_w]
        rfl
       refine one_ (i := 13) (N := some 28) q14_14 rfl rfl (one_of HT_.out (by kernel_rfl)) (by decide) (fun K hK => ?_)
       refine goes_ Try.func58 (by kernel_rfl) rfl #[.agg #[.string a1_0, .string a1_1, .bool a1_2], .string ((rd_T62 l0 x8_1).f0)] (by rfl) rfl rfl (by (try simp only [List.map_toArray, List.map_cons, List.map_nil]); first | done | rfl | (simp only [lD, lT]; rfl)) ?_
       with_reducible refine (rundleref04_Has.calls k1 a1_0 a1_1 a1_2 ((rd_T62 l0 x8_1).f0) false _ A10.out).mono ?_
       rintro e w23 ⟨rfl, hb⟩
       refine ⟨_, rfl, ?_⟩
       have n0_ := K0 (rB (by (with_reducible repeat (first | apply rA | apply rN | apply rD)); exact HO_7.out) hb)
       have n1_ := K0 (bB (g := gb372) (o := .cells #[.string a1_0, .string a1_1, .bool a1_2] 23 (0, 0)) (by (with_reducible repeat (first | refine bN ?_ _ | refine bD ?_ | refine bA ?_ _)); exact BK372.out) hb)
       have n2_ := K0 (below_step (by repeat (first | (with_reducible first | exact HB.out | apply wA | apply wN | apply wD | refine wS ?_ GE372.out) | exact HB.out)) hb)
       clear HO_7
       clear BK372
       clear HB
       have HO_7 := n0_
       have BK372 := n1_
       have HB := n2_
       clear n0_ n1_ n2_
       (try clear hb)
       (try clear hb2)
       (try clear hk)
       (try clear hi)
       refine hK.out _ _ ⟨(bC BK372.out 0).trans rfl, (bC BK372.out 1).trans rfl, (bC BK372.out 2).trans rfl, ((HB.out.cell (bL w _ hw373_0)).trans hw373_0), ((HB.out.cell (bL w _ hw373_1)).trans hw373_1), ((HB.out.cell (bL w _ hw373_2)).trans hw373_2), ((HB.out.cell (bL w _ hw374_0)).trans hw374_0), ((HB.out.cell (bL w _ hw374_1)).trans hw374_1), ((HB.out.cell (bL w _ hw374_2)).trans hw374_2)⟩ (fun hHeld => ?_)
       clear hK K
       refine norm_ (a' := ?_) ?_ ?_
       rotate_left
       ·
        show Act.put _ (some 28) _ = _
        simp only [Act.put, s1, s2, s3, i64_w, i32_w]
        rfl
       refine pure_ (i := 14) (N := some 29) (v := ?_) (a' := ?_) q14_15 rfl rfl (any_of HT_.out (by kernel_rfl)) (fun _ _ _ h => h) (Or.inl ⟨by rfl, ?_⟩) ?_ ?_
       rotate_left
       ·
        intro w'
        go_simp
        with_reducible rfl
       rotate_left
       ·
        simp only [Act.put, s1, s2, s3, i64_w, i32_w]
        rfl
       refine pure_ (i := 15) (N := some 30) (v := ?_) (a' := ?_) q14_16 rfl rfl (any_of HT_.out (by kernel_rfl)) (fun _ _ _ h => h) (Or.inl ⟨by rfl, ?_⟩) ?_ ?_
       rotate_left
       ·
        intro w'
        go_simp
        with_reducible rfl
       rotate_left
       ·
        simp only [Act.put, s1, s2, s3, i64_w, i32_w]
        rfl
       refine pure_ (i := 16) (N := some 31) (v := undef) (a' := ?_) q14_17 rfl rfl (any_of HT_.out (by kernel_rfl)) (fun _ _ _ h => h) (Or.inr ⟨by rfl, rfl⟩) ?_ ?_
       rotate_left
       ·
        simp only [Act.put, s1, s2, s3, i64_w, i32_w]
        rfl
       refine pure_ (i := 17) (N := some 32) (v := undef) (a' := ?_) q14_18 rfl rfl (any_of HT_.out (by kernel_rfl)) (fun _ _ _ h => h) (Or.inr ⟨by rfl, rfl⟩) ?_ ?_
       rotate_left
       ·
        simp only [Act.put, s1, s2, s3, i64_w, i32_w]
        rfl
       refine pure_ (i := 18) (N := some 33) (v := undef) (a' := ?_) q14_19 rfl rfl (any_of HT_.out (by kernel_rfl)) (fun _ _ _ h => h) (Or.inr ⟨by rfl, rfl⟩) ?_ ?_
       rotate_left
       ·
        simp only [Act.put, s1, s2, s3, i64_w, i32_w]
        rfl
       refine pure_ (i := 19) (N := some 34) (v := undef) (a' := ?_) q14_20 rfl rfl (any_of HT_.out (by kernel_rfl)) (fun _ _ _ h => h) (Or.inr ⟨by rfl, rfl⟩) ?_ ?_
       rotate_left
       ·
        simp only [Act.put, s1, s2, s3, i64_w, i32_w]
        rfl
       refine pure_ (i := 20) (N := some 35) (v := ?_) (a' := ?_) q14_21 rfl rfl (any_of HT_.out (by kernel_rfl)) (fun _ _ _ h => h) (Or.inl ⟨by rfl, ?_⟩) ?_ ?_
       rotate_left
       ·
        intro w'
        go_simp
        with_reducible rfl
       rotate_left
       ·
        simp only [Act.put, s1, s2, s3, i64_w, i32_w]
        rfl
       refine done_ (done_of HT_.out (by kernel_rfl)) ?_
       try go_wp2
       go_roundg k1
       case measure => have := HK1.out; omega
       case rel => exact ⟨(x7_1), (wrap64 (x8_1 + 1)), (by first | rfl | (simp; done) | (simp [*]; done)), H', ⟨by have := HK1.out; omega⟩, ⟨by (with_reducible repeat (first | apply rA | apply rN | apply rD)); exact HO_7.out⟩, ⟨by (with_reducible repeat (first | refine bN ?_ _ | refine bD ?_ | refine bA ?_ _)); exact BK372.out⟩, ⟨by repeat (first | (with_reducible first | exact HB.out | apply wA | apply wN | apply wD | refine wS ?_ GE372.out) | exact HB.out)⟩⟩
    ·
     rw [if_neg c6] at H
     exact absurd H (by simp)
   ·
    rw [if_neg c5] at H
    have c5b0 : decide (x8_1 < (l0.length : Int)) = false := dF c5
    clear c5
    obtain rfl := Option.some.inj H
    go_wp2
    go_ret
    exact ⟨_, by first | rfl | (simp [errW_none, errW_some] <;> rfl) | (simp [*, errW_none, errW_some] <;> rfl), by (with_reducible repeat (first | apply rA | apply rN | apply rD)); exact HO_7.out, by repeat (first | (with_reducible first | exact HB.out | apply wA | apply wN | apply wD | refine wS ?_ GE372.out) | exact HB.out)⟩
end Go.Proofs.Ytoaacdjcjicemaa.PRevPlays
