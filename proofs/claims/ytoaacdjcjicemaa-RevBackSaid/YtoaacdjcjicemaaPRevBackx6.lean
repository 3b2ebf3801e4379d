-- written by a program of this session (the print, turned)
import Derived.Test.YtoaacdjcjicemaaPRevBackx0
import Derived.Test.YtoaacdjcjicemaaPRevBackx5
import Derived.Test.YtoaacdjcjicemaaWAl
namespace Go.Proofs.Ytoaacdjcjicemaa.PRevBack
open Go.RowKit Go.Proofs.YtoaacdjcjicemaaW.PrintWords Go.Proofs.YtoaacdjcjicemaaW.PrintLast Go.Proofs.YtoaacdjcjicemaaW.PrintMore
attribute [local go_sem] cell_self cell_there leq_str geq_str gtr_str max2_str max2_int min2_int max_two min_two max_three min_three max_four min_four   -- for this text's walks alone
set_option linter.unusedVariables false
set_option linter.unusedSimpArgs false
abbrev q6_0 : Array Bool := #[false, false, false, false, false, false, false, false, false, false]
abbrev q6_1 : Array Bool := #[true, false, false, false, false, false, false, false, false, false]
abbrev q6_2 : Array Bool := #[true, true, false, false, false, false, false, false, false, false]
abbrev q6_3 : Array Bool := #[true, true, true, false, false, false, false, false, false, false]
abbrev q6_4 : Array Bool := #[true, true, true, false, true, false, false, false, false, false]
abbrev q6_5 : Array Bool := #[true, true, true, false, true, true, false, false, false, false]
abbrev q6_6 : Array Bool := #[true, true, true, false, true, true, true, false, false, false]
abbrev q6_7 : Array Bool := #[true, true, true, true, true, true, true, false, false, false]
abbrev q6_8 : Array Bool := #[true, true, true, true, true, true, true, true, false, false]
abbrev q6_9 : Array Bool := #[true, true, true, true, true, true, true, true, true, false]
abbrev q6_10 : Array Bool := #[true, true, true, true, true, true, true, true, true, true]
abbrev q6_11 : Array Bool := #[true, true, true, false, false, false, true, false, false, false]
abbrev q6_12 : Array Bool := #[true, true, true, false, false, false, true, true, false, false]
abbrev q6_13 : Array Bool := #[true, true, true, true, false, false, true, true, false, false]
abbrev q6_14 : Array Bool := #[true, true, true, true, true, false, true, true, false, false]
/-! ### rev_merged: function 57 -/
mutual
def rev_merged.l0 : Nat → List (S114) → List (S114) → List (S114) → Option ((List (S114)))
 | 0, _, _, _ => none
 | k + 1, x0, x1, x5 => if (x0.length : Int) > 0 then (rev_merged.j1 k x0 x1 x5 (decide ((x1.length : Int) > 0))) else (rev_merged.j1 k x0 x1 x5 false)
def rev_merged.j1 : Nat → List (S114) → List (S114) → List (S114) → Bool → Option ((List (S114)))
 | 0, _, _, _, _ => none
 | k + 1, x0, x1, x5, x14 => if x14 = true then (if 0 < (x0.length : Int) then (if 0 < (x1.length : Int) then ((cmp_Compare_string.f ((rd_T114 x0 0).f0) ((rd_T114 x1 0).f0)).bind fun t172 => (if t172 < 0 then (if x5.length < 3518437208883 then (if 1 ≤ (x0.length : Int) then (rev_merged.l0 k (x0.drop 1) x1 (x5 ++ [(⟨(rd_T114 x0 0).f0, (rd_T114 x0 0).f1, (rd_T114 x0 0).f2⟩ : S114)])) else (none)) else (none)) else (if t172 > 0 then (if x5.length < 3518437208883 then (if 1 ≤ (x1.length : Int) then (rev_merged.l0 k x0 (x1.drop 1) (x5 ++ [(⟨(rd_T114 x1 0).f0, (rd_T114 x1 0).f1, (rd_T114 x1 0).f2⟩ : S114)])) else (none)) else (none)) else (if 1 ≤ (x0.length : Int) then (rev_merged.l0 k (x0.drop 1) x1 x5) else (none))))) else (none)) else (none)) else (if x5.length + x0.length < 3518437208883 then ((some (x5 ++ x0 : List (S114))).bind fun y164 => (if y164.length + x1.length < 3518437208883 then (some (y164 ++ x1)) else (none))) else (none))
end
def rev_merged.f (k : Nat) (l0 : List (S114)) (l1 : List (S114)) : Option ((List (S114))) := rev_merged.l0 k l0 l1 ([] : List (S114))
def rev_merged.T3 : Bool × List (List Nat × List Nat) := (true, [([], []), ([0], [0]), ([1], [1]), ([2], [2]), ([], []), ([4], [4]), ([5], [5]), ([6], [6]), ([3, 7], [3, 7]), ([8, 8, 0, 1, 2, 3, 4, 5, 6, 7, 8], [8])])
def rev_merged.B3 : List Nat := [0, 1, 3, 7, 0, 16, 48, 112, 255, 511]
theorem rev_merged.tab3 : rtab .any (opsOf Try.f57 3) = rev_merged.T3 := by kernel_rfl
theorem rev_merged.bits3 : waitsOk rev_merged.T3.2 rev_merged.B3 = true := by kernel_rfl
def rev_merged.T6 : Bool × List (List Nat × List Nat) := (true, [([], []), ([], []), ([1], [1]), ([2], [2]), ([3], [3]), ([0, 4], [0, 4]), ([], []), ([6], [6]), ([5, 5, 0, 1, 2, 3, 4, 5], [0, 5]), ([7, 8, 0, 1, 2, 3, 4, 5, 6, 7, 8], [1, 6, 7])])
def rev_merged.B6 : List Nat := [0, 0, 2, 6, 14, 31, 0, 64, 63, 511]
theorem rev_merged.tab6 : rtab .any (opsOf Try.f57 6) = rev_merged.T6 := by kernel_rfl
theorem rev_merged.bits6 : waitsOk rev_merged.T6.2 rev_merged.B6 = true := by kernel_rfl
def rev_merged.T8 : Bool × List (List Nat × List Nat) := (true, [([], []), ([], []), ([1], [1]), ([2], [2]), ([3], [3]), ([0, 4], [0, 4]), ([], []), ([6], [6]), ([5, 5, 0, 1, 2, 3, 4, 5], [0, 5]), ([7, 8, 0, 1, 2, 3, 4, 5, 6, 7, 8], [1, 6, 7])])
def rev_merged.B8 : List Nat := [0, 0, 2, 6, 14, 31, 0, 64, 63, 511]
theorem rev_merged.tab8 : rtab .any (opsOf Try.f57 8) = rev_merged.T8 := by kernel_rfl
theorem rev_merged.bits8 : waitsOk rev_merged.T8.2 rev_merged.B8 = true := by kernel_rfl
set_option maxHeartbeats 8000000 in
set_option maxRecDepth 100000 in
theorem rev_merged.calls (k : Nat) (P0_ : Nat → Prop) (A0 : Option Addr) (c0 : Nat) (l0 : List (S114)) (P1_ : Nat → Prop) (A1 : Option Addr) (c1 : Nat) (l1 : List (S114)) (r : List (S114)) (w : World) (hs0 : Kd.V k114 114 w w.heap.size (fun k_ => P0_ k_) (.slice A0 l0.length c0) l0) (hs1 : Kd.V k114 114 w w.heap.size (fun k_ => P1_ k_) (.slice A1 l1.length c1) l1) (h : rev_merged.f k l0 l1 = some r) :
  Calls Try.prog 57 #[.slice A0 l0.length c0, .slice A1 l1.length c1] w fun e w' => ∃ v0_ : Value, e = .returned (v0_) ∧ Kd.R k114 114 w' w.heap.size (fun k_ => (w.heap.size ≤ k_)) v0_ r ∧ Below w.heap.size w w' := by
 have hu114 := Try.underlying114
 have HO0 := K0 (show Kd.V k114 114 w w.heap.size (fun k_ => ((P0_ k_ ∨ P1_ k_) ∨ w.heap.size ≤ k_)) (.slice A0 l0.length c0) l0 from Kd.V_mono hs0 (fun k_ hk => .inl (.inl hk)))
 have HO1 := K0 (show Kd.V k114 114 w w.heap.size (fun k_ => ((P0_ k_ ∨ P1_ k_) ∨ w.heap.size ≤ k_)) (.slice A1 l1.length c1) l1 from Kd.V_mono hs1 (fun k_ hk => .inl (.inr hk)))
 have HB := K0 (Below.refl w.heap.size w)
 have H : (rev_merged.l0 k l0 l1 ([] : List (S114))) = some r := h
 clear h
 have H' := K0 H
 clear H
 go_enter Try.func57, Try.ntmps57
 go_wp2
 go_loopg [0, 1, 5] k (fun kq v0 v1 v5 w' => ∃ (x0_1 : List (S114)) (x1_1 : List (S114)) (x5_1 : List (S114)), Aside0 (rev_merged.l0 kq x0_1 x1_1 x5_1 = some r) ∧ Aside0 (kq ≤ k) ∧ Aside0 (Kd.V k114 114 w' w.heap.size (fun k_ => ((P0_ k_ ∨ P1_ k_) ∨ w.heap.size ≤ k_) ∧ some k_ ≠ (v5 : Value).ownBlock) v0 x0_1) ∧ Aside0 (Kd.V k114 114 w' w.heap.size (fun k_ => ((P0_ k_ ∨ P1_ k_) ∨ w.heap.size ≤ k_) ∧ some k_ ≠ (v5 : Value).ownBlock) v1 x1_1) ∧ Aside0 (Kd.R k114 114 w' w.heap.size (fun k_ => (w.heap.size ≤ k_)) v5 x5_1) ∧ Aside0 (Below w.heap.size w w'))
 case atStart => exact ⟨(l0), (l1), (([] : List (S114))), H', ⟨Nat.le_refl _⟩, ⟨by (with_reducible repeat (first | apply Kd.V_alloc | apply Kd.V_drewN | apply Kd.V_drew)); exact Kd.V_mono HO0.out (fun _ hk => ⟨hk, (by simp [Value.ownBlock])⟩)⟩, ⟨by (with_reducible repeat (first | apply Kd.V_alloc | apply Kd.V_drewN | apply Kd.V_drew)); exact Kd.V_mono HO1.out (fun _ hk => ⟨hk, (by simp [Value.ownBlock])⟩)⟩, ⟨by first | exact Kd.R_nil _ _ _ _ _ | exact Kd.N_nil _ _ _ _ _ | exact Kd.V_nil _ _ _ _ _ | exact Kd.Q_nil _ _ _ _ _ | exact Kd.S_nil _ _ _ _ _⟩, ⟨by repeat (first | (with_reducible first | exact HB.out | apply wA | apply wN | apply wD) | exact HB.out)⟩⟩
 case round =>
  clear H'
  try clear c1
  try clear p2
  obtain ⟨x0_1, x1_1, x5_1, HA, HK1, HO_0, HO_1, HO_5, HB⟩ := hrel
  cases gk with
  | zero => exact absurd HA.out (by simp [rev_merged.l0])
  | succ k1 =>
   have H := HA.out; clear HA; simp only [rev_merged.l0] at H; have HC3 := K0 H; clear H; go_upto_region 2 with (fail)
   go_cut [14] (fun v14 wc => ∃ (kq : Nat) (x14_2 : Bool), v14 = .bool x14_2 ∧ Aside0 (rev_merged.j1 kq x0_1 x1_1 x5_1 x14_2 = some r) ∧ Aside0 (kq ≤ k1) ∧ Aside0 (Kd.V k114 114 wc w.heap.size (fun k_ => ((P0_ k_ ∨ P1_ k_) ∨ w.heap.size ≤ k_) ∧ some k_ ≠ (u5 : Value).ownBlock) u0 x0_1) ∧ Aside0 (Kd.V k114 114 wc w.heap.size (fun k_ => ((P0_ k_ ∨ P1_ k_) ∨ w.heap.size ≤ k_) ∧ some k_ ≠ (u5 : Value).ownBlock) u1 x1_1) ∧ Aside0 (Kd.R k114 114 wc w.heap.size (fun k_ => (w.heap.size ≤ k_)) u5 x5_1) ∧ Aside0 (Below w.heap.size w wc))
   case first =>
    have H := HC3.out; clear HC3; by_cases c4 : (x0_1.length : Int) > 0
    ·
     rw [if_pos c4] at H; have c4b0 : decide (0 < (x0_1.length : Int)) = true := dT c4; have c4b1 : decide (0 < x0_1.length) = true := dT (by omega); clear c4; (first | rw [c4b0] | (simp only [i64_w, i32_w]; rw [c4b0]) | skip)
     have H' := K0 H; clear H; obtain ⟨Ao5, co5, eo5⟩ := Kd.V_slice HO_0.out; subst eo5; obtain ⟨Ao6, co6, eo6⟩ := Kd.V_slice HO_1.out; subst eo6; go_wp2
     go_meet
     case rel => exact ⟨_, (decide ((x1_1.length : Int) > 0)), (by first | rfl | (simp; done) | (simp [*]; done)), H', ⟨by have := HK1.out; first | omega | exact Nat.le_refl _⟩, ⟨by (with_reducible repeat (first | apply Kd.V_alloc | apply Kd.V_drewN | apply Kd.V_drew)); exact HO_0.out⟩, ⟨by (with_reducible repeat (first | apply Kd.V_alloc | apply Kd.V_drewN | apply Kd.V_drew)); exact HO_1.out⟩, ⟨by (with_reducible repeat (first | apply rA | apply rN | apply rD)); exact HO_5.out⟩, ⟨by repeat (first | (with_reducible first | exact HB.out | apply wA | apply wN | apply wD) | exact HB.out)⟩⟩
    rw [if_neg c4] at H; have c4b0 : decide (0 < (x0_1.length : Int)) = false := dF c4; have c4b1 : decide (0 < x0_1.length) = false := dF (by omega); clear c4; (first | rw [c4b0] | (simp only [i64_w, i32_w]; rw [c4b0]) | skip)
    have H' := K0 H; clear H; obtain ⟨Ao7, co7, eo7⟩ := Kd.V_slice HO_0.out; subst eo7; go_wp2
    go_meet
    case rel => exact ⟨_, (false), (by first | rfl | (simp; done) | (simp [*]; done)), H', ⟨by have := HK1.out; first | omega | exact Nat.le_refl _⟩, ⟨by (with_reducible repeat (first | apply Kd.V_alloc | apply Kd.V_drewN | apply Kd.V_drew)); exact HO_0.out⟩, ⟨by (with_reducible repeat (first | apply Kd.V_alloc | apply Kd.V_drewN | apply Kd.V_drew)); exact HO_1.out⟩, ⟨by (with_reducible repeat (first | apply rA | apply rN | apply rD)); exact HO_5.out⟩, ⟨by repeat (first | (with_reducible first | exact HB.out | apply wA | apply wN | apply wD) | exact HB.out)⟩⟩
   case rest =>
    clear HC3; try clear c1
    try clear p2
    try clear c4
    try clear c4b0
    try clear c4b1
    try clear c5
    try clear p2
    obtain ⟨kq, x14_2, rfl, HA, HJ2, HO_0, HO_1, HO_5, HB⟩ := hcut
    cases kq with
    | zero => exact absurd HA.out (by simp [rev_merged.j1])
    | succ kj2 =>
     have H := HA.out; clear HA; simp only [rev_merged.j1] at H; by_cases c8 : x14_2 = true
     ·
      subst c8; have H1 : (if 0 < (x0_1.length : Int) then (if 0 < (x1_1.length : Int) then ((cmp_Compare_string.f ((rd_T114 x0_1 0).f0) ((rd_T114 x1_1 0).f0)).bind fun t172 => (if t172 < 0 then (if x5_1.length < 3518437208883 then (if 1 ≤ (x0_1.length : Int) then (rev_merged.l0 kj2 (x0_1.drop 1) x1_1 (x5_1 ++ [(⟨(rd_T114 x0_1 0).f0, (rd_T114 x0_1 0).f1, (rd_T114 x0_1 0).f2⟩ : S114)])) else (none)) else (none)) else (if t172 > 0 then (if x5_1.length < 3518437208883 then (if 1 ≤ (x1_1.length : Int) then (rev_merged.l0 kj2 x0_1 (x1_1.drop 1) (x5_1 ++ [(⟨(rd_T114 x1_1 0).f0, (rd_T114 x1_1 0).f1, (rd_T114 x1_1 0).f2⟩ : S114)])) else (none)) else (none)) else (if 1 ≤ (x0_1.length : Int) then (rev_merged.l0 kj2 (x0_1.drop 1) x1_1 x5_1) else (none))))) else (none)) else (none)) = some r := by rw [if_pos rfl] at H; exact H
      clear H; have H := H1; clear H1; by_cases c9 : 0 < (x0_1.length : Int)
      ·
       rw [if_pos c9] at H; have c9b0 : decide (0 < (x0_1.length : Int)) = true := dT c9; have c9b1 : decide (0 < x0_1.length) = true := dT (by omega); clear c9; by_cases c10 : 0 < (x1_1.length : Int)
       ·
        rw [if_pos c10] at H; have c10b0 : decide (0 < (x1_1.length : Int)) = true := dT c10; have c10b1 : decide (0 < x1_1.length) = true := dT (by omega); clear c10; replace H := Option.bind_eq_some_iff.mp H; obtain ⟨t172, A110, H⟩ := H; replace H : (if t172 < 0 then (if x5_1.length < 3518437208883 then (if 1 ≤ (x0_1.length : Int) then (rev_merged.l0 kj2 (x0_1.drop 1) x1_1 (x5_1 ++ [(⟨(rd_T114 x0_1 0).f0, (rd_T114 x0_1 0).f1, (rd_T114 x0_1 0).f2⟩ : S114)])) else (none)) else (none)) else (if t172 > 0 then (if x5_1.length < 3518437208883 then (if 1 ≤ (x1_1.length : Int) then (rev_merged.l0 kj2 x0_1 (x1_1.drop 1) (x5_1 ++ [(⟨(rd_T114 x1_1 0).f0, (rd_T114 x1_1 0).f1, (rd_T114 x1_1 0).f2⟩ : S114)])) else (none)) else (none)) else (if 1 ≤ (x0_1.length : Int) then (rev_merged.l0 kj2 (x0_1.drop 1) x1_1 x5_1) else (none)))) = some r := H; have A11 := K0 A110; clear A110; by_cases c12 : t172 < 0
        ·
         rw [if_pos c12] at H; have c12b0 : decide (t172 < 0) = true := dT c12; clear c12; by_cases c13 : x5_1.length < 3518437208883
         ·
          rw [if_pos c13] at H; have LMc13 := K0 c13; clear c13; obtain ⟨y174, hy174⟩ : ∃ y_ : List (S114), y_ = (x5_1 ++ [(⟨(rd_T114 x0_1 0).f0, (rd_T114 x0_1 0).f1, (rd_T114 x0_1 0).f2⟩ : S114)]) := ⟨_, rfl⟩; replace H : (if 1 ≤ (x0_1.length : Int) then (rev_merged.l0 kj2 (x0_1.drop 1) x1_1 y174) else (none)) = some r := by first | (rw [hy174]; with_reducible exact H) | (have H2_ := (Option.bind_some _ _).symm.trans H; rw [hy174]; with_reducible exact H2_) | (have H2_ := (Option.bind_some _ _).symm.trans H; with_reducible exact H2_) | with_reducible exact H | (rw [hy174]; exact H) | exact H
          have Ny174 := K0 hy174; clear hy174; by_cases c14 : 1 ≤ (x0_1.length : Int)
          ·
           rw [if_pos c14] at H; have c14b0 := eq_true c14; have c14b1 : decide (1 ≤ (x0_1.length : Int)) = true := dT c14; clear c14; obtain ⟨y177, hy177⟩ : ∃ y_ : List (S114), y_ = (x0_1.drop 1) := ⟨_, rfl⟩; replace H : (rev_merged.l0 kj2 y177 x1_1 y174) = some r := by first | (rw [hy177]; with_reducible exact H) | (have H2_ := (Option.bind_some _ _).symm.trans H; rw [hy177]; with_reducible exact H2_) | (have H2_ := (Option.bind_some _ _).symm.trans H; with_reducible exact H2_) | with_reducible exact H | (rw [hy177]; exact H) | exact H
           have Ny177 := K0 hy177; clear hy177; have H' := K0 H; clear H; try go_wp2
           have n0_ := K0 (Kd.V_drew HO_0.out); have n1_ := K0 (Kd.V_drew HO_1.out); have n2_ := K0 (rD HO_5.out); have n3_ := K0 (wD HB.out); clear HO_0 HO_1 HO_5 HB; have HO_0 := n0_; have HO_1 := n1_; have HO_5 := n2_; have HB := n3_; clear n0_ n1_ n2_ n3_; obtain ⟨Ao16, co16, eo16⟩ := Kd.V_slice HO_0.out; (first | subst eo16 | (injection eo16 with f1_ f2_ f3_; have f4_ := f1_.symm; have f5_ := f3_.symm; clear f1_ f2_ f3_; subst f4_; subst f5_))
           have p170 : 0 ≤ (0 : Int) := (by omega); have q170 : 0 < (x0_1.length : Int) := oT (by first | (with_reducible assumption) | assumption); obtain ⟨ad170, e170, hx170_0, hx170_1, hx170_2⟩ := at_T114 (Kd.V_reads' HO_0.out).2.2 0 p170 q170
           cases e170; have qi170 : (0 < x0_1.length) = True := eq_true (by omega); (try rw [show ((0 : Int)).toNat = 0 from rfl] at hx170_0)
           (try rw [show 0 * 3 = 0 from rfl] at hx170_0)
           (try rw [Addr.add_zero'] at hx170_0)
           (try rw [show ((0 : Int)).toNat = 0 from rfl] at hx170_1)
           (try rw [show 0 * 3 = 0 from rfl] at hx170_1)
           (try rw [Addr.add_zero'] at hx170_1)
           (try rw [show ((0 : Int)).toNat = 0 from rfl] at hx170_2)
           (try rw [show 0 * 3 = 0 from rfl] at hx170_2)
           (try rw [Addr.add_zero'] at hx170_2)
           replace p170 := eq_true p170; replace q170 := eq_true q170; obtain ⟨Ao17, co17, eo17⟩ := Kd.V_slice HO_1.out; (first | subst eo17 | (injection eo17 with f1_ f2_ f3_; have f4_ := f1_.symm; have f5_ := f3_.symm; clear f1_ f2_ f3_; subst f4_; subst f5_))
           have p171 : 0 ≤ (0 : Int) := (by omega); have q171 : 0 < (x1_1.length : Int) := oT (by first | (with_reducible assumption) | assumption); obtain ⟨ad171, e171, hx171_0, hx171_1, hx171_2⟩ := at_T114 (Kd.V_reads' HO_1.out).2.2 0 p171 q171
           cases e171; have qi171 : (0 < x1_1.length) = True := eq_true (by omega); (try rw [show ((0 : Int)).toNat = 0 from rfl] at hx171_0)
           (try rw [show 0 * 3 = 0 from rfl] at hx171_0)
           (try rw [Addr.add_zero'] at hx171_0)
           (try rw [show ((0 : Int)).toNat = 0 from rfl] at hx171_1)
           (try rw [show 0 * 3 = 0 from rfl] at hx171_1)
           (try rw [Addr.add_zero'] at hx171_1)
           (try rw [show ((0 : Int)).toNat = 0 from rfl] at hx171_2)
           (try rw [show 0 * 3 = 0 from rfl] at hx171_2)
           (try rw [Addr.add_zero'] at hx171_2)
           replace p171 := eq_true p171; replace q171 := eq_true q171; refine start_ (n := 10) (S := fun w' => w'.cell? ad170 = some (.string ((rd_T114 x0_1 0).f0)) ∧ w'.cell? ⟨ad170.block, ad170.off + 1, none⟩ = some (.string ((rd_T114 x0_1 0).f1)) ∧ w'.cell? ⟨ad170.block, ad170.off + 2, none⟩ = some (.bool ((rd_T114 x0_1 0).f2)) ∧ w'.cell? ad171 = some (.string ((rd_T114 x1_1 0).f0)) ∧ w'.cell? ⟨ad171.block, ad171.off + 1, none⟩ = some (.string ((rd_T114 x1_1 0).f1)) ∧ w'.cell? ⟨ad171.block, ad171.off + 2, none⟩ = some (.bool ((rd_T114 x1_1 0).f2))) (ds := []) q6_0 (by kernel_rfl) rfl rfl ⟨hx170_0, hx170_1, hx170_2, hx171_0, hx171_1, hx171_2⟩ (fun hHeld => ?_); refine with_tabW rev_merged.tab3 rev_merged.bits3 (fun HT_ HW_ => ?_)
           generalize wc.drew = w15 at HO_0 HO_1 HO_5 HB hx170_0 hx170_1 hx170_2 hx171_0 hx171_1 hx171_2 hHeld ⊢; refine pure_ (i := 0) (N := some 15) (v := ?_) (a' := ?_) q6_1 rfl rfl (any_of HT_.out (by kernel_rfl)) (fun _ _ _ h => h) (Or.inl ⟨by rfl, ?_⟩) ?_ ?_; rotate_left
           · intro w'; go_simp; with_reducible rfl
           rotate_left
           · simp only [Act.put, s1, s2, s3, i64_w, i32_w]; rfl
           refine pure_ (i := 1) (N := some 16) (v := ?_) (a' := ?_) q6_2 rfl rfl (any_of HT_.out (by kernel_rfl)) (fun _ _ _ h => h) (Or.inl ⟨by rfl, ?_⟩) ?_ ?_; rotate_left
           · intro w'; go_simp; with_reducible rfl
           rotate_left
           · simp only [Act.put, s1, s2, s3, i64_w, i32_w]; rfl
           refine pure_ (i := 2) (N := some 17) (v := ?_) (a' := ?_) q6_3 rfl rfl (any_of HT_.out (by kernel_rfl)) (fun _ _ _ h => h) (Or.inl ⟨by rfl, ?_⟩) ?_ ?_; rotate_left
           · intro w'; go_simp; with_reducible rfl
           rotate_left
           · simp only [Act.put, s1, s2, s3, i64_w, i32_w]; rfl
           refine pure_ (i := 4) (N := some 19) (v := ?_) (a' := ?_) q6_4 rfl rfl (any_of HT_.out (by kernel_rfl)) (fun _ _ _ h => h) (Or.inl ⟨by rfl, ?_⟩) ?_ ?_; rotate_left
           · intro w'; go_simp; with_reducible rfl
           rotate_left
           · simp only [Act.put, s1, s2, s3, i64_w, i32_w]; rfl
           refine pure_ (i := 5) (N := some 20) (v := ?_) (a' := ?_) q6_5 rfl rfl (any_of HT_.out (by kernel_rfl)) (fun _ _ _ h => h) (Or.inl ⟨by rfl, ?_⟩) ?_ ?_; rotate_left
           · intro w'; go_simp; with_reducible rfl
           rotate_left
           · simp only [Act.put, s1, s2, s3, i64_w, i32_w]; rfl
           refine pure_ (i := 6) (N := some 21) (v := ?_) (a' := ?_) q6_6 rfl rfl (any_of HT_.out (by kernel_rfl)) (fun _ _ _ h => h) (Or.inl ⟨by rfl, ?_⟩) ?_ ?_; rotate_left
           · intro w'; go_simp; with_reducible rfl
           rotate_left
           · simp only [Act.put, s1, s2, s3, i64_w, i32_w]; rfl
           refine take_ (i := 3) (N := some 18) (v := ?_) (a' := ?_) q6_7 rfl rfl (take_ofW HT_.out HW_.out (by kernel_rfl)) (fun _ _ _ h => h) (Or.inl ⟨by rfl, ?_⟩) hHeld ?_ ?_; rotate_left
           · rintro w' ⟨s0, s1, s2, s3, s4, s5⟩; go_simp; with_reducible rfl
           rotate_left
           · simp only [Act.put, s1, s2, s3, i64_w, i32_w]; rfl
           refine take_ (i := 7) (N := some 22) (v := ?_) (a' := ?_) q6_8 rfl rfl (take_ofW HT_.out HW_.out (by kernel_rfl)) (fun _ _ _ h => h) (Or.inl ⟨by rfl, ?_⟩) hHeld ?_ ?_; rotate_left
           · rintro w' ⟨s0, s1, s2, s3, s4, s5⟩; go_simp; with_reducible rfl
           rotate_left
           · simp only [Act.put, s1, s2, s3, i64_w, i32_w]; rfl
           refine one_ (i := 8) (N := some 23) q6_9 rfl rfl (one_of HT_.out (by kernel_rfl)) (by decide) (fun K hK => ?_); refine goes_ Try.func87 (by kernel_rfl) rfl #[.string ((rd_T114 x0_1 0).f0), .string ((rd_T114 x1_1 0).f0)] (by rfl) rfl rfl (by (try simp only [List.map_toArray, List.map_cons, List.map_nil]); first | done | rfl | (simp only [lD, lT]; rfl)) ?_; with_reducible refine (cmp_Compare_string.calls ((rd_T114 x0_1 0).f0) ((rd_T114 x1_1 0).f0) t172 _ A11.out).mono ?_
           rintro e w' ⟨rfl, ⟨nd, rfl⟩⟩; refine ⟨_, rfl, ?_⟩; refine hK.out _ _ ⟨hHeld.1, hHeld.2.1, hHeld.2.2.1, hHeld.2.2.2.1, hHeld.2.2.2.2.1, hHeld.2.2.2.2.2⟩ (fun hHeld => ?_); clear hK K; refine norm_ (a' := ?_) ?_ ?_; rotate_left
           · show Act.put _ (some 23) _ = _; simp only [Act.put, s1, s2, s3, i64_w, i32_w]; rfl
           refine pure_ (i := 9) (N := some 6) (v := ?_) (a' := ?_) q6_10 rfl rfl (any_of HT_.out (by kernel_rfl)) (fun _ _ _ h => h) (Or.inl ⟨by rfl, ?_⟩) ?_ ?_; rotate_left
           · intro w'; go_simp; with_reducible rfl
           rotate_left
           · simp only [Act.put, s1, s2, s3, i64_w, i32_w]; rfl
           refine done_ (done_of HT_.out (by kernel_rfl)) ?_; try go_wp2
           (try (rw [drewN_self w15]; generalize hq_ : World.drewN w15 _ = w15; have n0_ : Aside0 (Kd.V k114 114 w15 w.heap.size (fun k_ => ((P0_ k_ ∨ P1_ k_) ∨ w.heap.size ≤ k_) ∧ some k_ ≠ (u5 : Value).ownBlock) (.slice (some ad170) x0_1.length co16) x0_1) := ⟨by rw [← hq_]; exact (by (with_reducible repeat (first | apply Kd.V_alloc | apply Kd.V_drewN | apply Kd.V_drew)); exact HO_0.out)⟩; have n1_ : Aside0 (Kd.V k114 114 w15 w.heap.size (fun k_ => ((P0_ k_ ∨ P1_ k_) ∨ w.heap.size ≤ k_) ∧ some k_ ≠ (u5 : Value).ownBlock) (.slice (some ad171) x1_1.length co17) x1_1) := ⟨by rw [← hq_]; exact (by (with_reducible repeat (first | apply Kd.V_alloc | apply Kd.V_drewN | apply Kd.V_drew)); exact HO_1.out)⟩; have n2_ : Aside0 (Kd.R k114 114 w15 w.heap.size (fun k_ => (w.heap.size ≤ k_)) u5 x5_1) := ⟨by rw [← hq_]; exact (by (with_reducible repeat (first | apply rA | apply rN | apply rD)); exact HO_5.out)⟩; have n3_ : Aside0 (Below w.heap.size w w15) := ⟨by rw [← hq_]; exact (by repeat (first | (with_reducible first | exact HB.out | apply wA | apply wN | apply wD) | exact HB.out))⟩; clear HO_0 HO_1 HO_5 HB hq_; have HO_0 := n0_; have HO_1 := n1_; have HO_5 := n2_; have HB := n3_; clear n0_ n1_ n2_ n3_))
           have n0_ := K0 (Kd.V_drew HO_0.out); have n1_ := K0 (Kd.V_drew HO_1.out); have n2_ := K0 (rD HO_5.out); have n3_ := K0 (wD HB.out); clear HO_0 HO_1 HO_5 HB; have HO_0 := n0_; have HO_1 := n1_; have HO_5 := n2_; have HB := n3_; clear n0_ n1_ n2_ n3_; have p173 : 0 ≤ (0 : Int) := (by omega); have q173 : 0 < (x0_1.length : Int) := oT (by first | (with_reducible assumption) | assumption); obtain ⟨ad173, e173, hx173_0, hx173_1, hx173_2⟩ := at_T114 (Kd.V_reads' HO_0.out).2.2 0 p173 q173; obtain rfl : ad170 = ad173 := (by injection e173); have qi173 : (0 < x0_1.length) = True := eq_true (by omega); (try rw [show ((0 : Int)).toNat = 0 from rfl] at hx173_0)
           (try rw [show 0 * 3 = 0 from rfl] at hx173_0)
           (try rw [Addr.add_zero'] at hx173_0)
           (try rw [show ((0 : Int)).toNat = 0 from rfl] at hx173_1)
           (try rw [show 0 * 3 = 0 from rfl] at hx173_1)
           (try rw [Addr.add_zero'] at hx173_1)
           (try rw [show ((0 : Int)).toNat = 0 from rfl] at hx173_2)
           (try rw [show 0 * 3 = 0 from rfl] at hx173_2)
           (try rw [Addr.add_zero'] at hx173_2)
           replace p173 := eq_true p173; replace q173 := eq_true q173; have q19 : (1 : Int) ≤ ((x0_1.length : Int) : Int) := oT (by first | (with_reducible assumption) | assumption); obtain ⟨i019, hi019, _, hsz19, _⟩ := info_parts info114; have hroom19 : x0_1.length ≤ co16 := (Kd.V_reads' HO_0.out).2.1; have hC19 : Kd.F k114 _ _ (some ad170) x0_1.length x0_1 := (Kd.V_at (base := w.heap.size) HO_0.out).2.2; have hcut19 := cut_from (P := Try.prog) 42 114 .i64 Try.underlying42 hi019 3 hsz19 (some ad170) x0_1.length co16 1 (by omega) q19; have hr19 := Kd.F_cut (m := (1 : Int).toNat) (c := co16) hC19 (by omega) hroom19; obtain ⟨A19, hA19⟩ : ∃ A1, A1 = (if co16 = (1 : Int).toNat then (some ad170) else ((some ad170) : Option Addr).map (·.add ((1 : Int).toNat * 3))) := ⟨_, rfl⟩; obtain ⟨c19, hc19⟩ : ∃ c1, c1 = co16 - (1 : Int).toNat := ⟨_, rfl⟩; have hy19 : y177.length = x0_1.length - (1 : Int).toNat := (by rw [Ny177.out, lD] <;> omega); rw [show (x0_1).drop (1 : Int).toNat = y177 from Ny177.out.symm] at hr19; replace hr19 : Kd.F k114 _ _ A19 y177.length y177 := (by rw [hA19]; exact hr19); rw [← hy19, ← hA19, ← hc19] at hcut19; have HO181 := K0 (show Kd.V k114 114 _ w.heap.size _ (.slice A19 y177.length c19) y177 from Kd.V_mk (by rw [hy19, hc19]; exact Nat.sub_le_sub_right hroom19 _) hr19); have HC181 := K0 (show y177.length ≤ c19 from by rw [hy19, hc19]; exact Nat.sub_le_sub_right hroom19 _); clear hr19 hC19 hroom19 hi019 hsz19 hc19; have KY19 := K0 hy19; have KA19 := K0 hA19; clear hy19 hA19; replace q19 := eq_true q19; refine start_ (n := 10) (S := fun w' => w'.cell? ad170 = some (.string ((rd_T114 x0_1 0).f0)) ∧ w'.cell? ⟨ad170.block, ad170.off + 1, none⟩ = some (.string ((rd_T114 x0_1 0).f1)) ∧ w'.cell? ⟨ad170.block, ad170.off + 2, none⟩ = some (.bool ((rd_T114 x0_1 0).f2))) (ds := [4, 5]) q6_0 (by kernel_rfl) rfl rfl ⟨hx173_0, hx173_1, hx173_2⟩ (fun hHeld => ?_); refine with_tabW rev_merged.tab6 rev_merged.bits6 (fun HT_ HW_ => ?_)
           generalize w15.drew = w18 at HO_0 HO_1 HO_5 HB HO181 hx173_0 hx173_1 hx173_2 hHeld ⊢; refine pure_ (i := 0) (N := some 29) (v := ?_) (a' := ?_) q6_1 rfl rfl (any_of HT_.out (by kernel_rfl)) (fun _ _ _ h => h) (Or.inl ⟨by rfl, ?_⟩) ?_ ?_; rotate_left
           · intro w'; go_simp; with_reducible rfl
           rotate_left
           · simp only [Act.put, s1, s2, s3, i64_w, i32_w]; rfl
           refine pure_ (i := 1) (N := some 30) (v := ?_) (a' := ?_) q6_2 rfl rfl (any_of HT_.out (by kernel_rfl)) (fun _ _ _ h => h) (Or.inl ⟨by rfl, ?_⟩) ?_ ?_; rotate_left
           · intro w'; go_simp; with_reducible rfl
           rotate_left
           · simp only [Act.put, s1, s2, s3, i64_w, i32_w]; rfl
           refine pure_ (i := 2) (N := some 31) (v := ?_) (a' := ?_) q6_3 rfl rfl (any_of HT_.out (by kernel_rfl)) (fun _ _ _ h => h) (Or.inl ⟨by rfl, ?_⟩) ?_ ?_; rotate_left
           · intro w'; go_simp; with_reducible rfl
           rotate_left
           · simp only [Act.put, s1, s2, s3, i64_w, i32_w]; rfl
           refine pure_ (i := 6) (N := some 35) (v := ?_) (a' := ?_) q6_11 rfl rfl (any_of HT_.out (by kernel_rfl)) (fun _ _ _ h => h) (Or.inl ⟨by rfl, ?_⟩) ?_ ?_; rotate_left
           · intro w'; go_simp; with_reducible rfl
           rotate_left
           · simp only [Act.put, s1, s2, s3, i64_w, i32_w]; rfl
           refine pure_ (i := 7) (N := some 36) (v := ?_) (a' := ?_) q6_12 rfl rfl (any_of HT_.out (by kernel_rfl)) (fun _ _ _ h => h) (Or.inl ⟨by rfl, ?_⟩) ?_ ?_; rotate_left
           · intro w'; go_simp; with_reducible rfl
           rotate_left
           · simp only [Act.put, s1, s2, s3, i64_w, i32_w]; rfl
           refine take_ (i := 3) (N := some 32) (v := ?_) (a' := ?_) q6_13 rfl rfl (take_ofW HT_.out HW_.out (by kernel_rfl)) (fun _ _ _ h => h) (Or.inl ⟨by rfl, ?_⟩) hHeld ?_ ?_; rotate_left
           · rintro w' ⟨s0, s1, s2⟩; go_simp; with_reducible rfl
           rotate_left
           · simp only [Act.put, s1, s2, s3, i64_w, i32_w]; rfl
           refine last_ (i := 4) (N := some 33) q6_14 rfl rfl (one_of HT_.out (by kernel_rfl)) (by decide) (fun K hK => ?_); refine value_ (w1 := ?_) (v := ?_) (by rfl) rfl ?_ ?_; rotate_left 2
           ·
            go_simp; constructor
            · rfl
            rfl
           refine hK.out _ _ ?_; clear hK K; refine norm_ (a' := ?_) ?_ ?_; rotate_left
           · show Act.put _ (some 33) _ = _; simp only [Act.put, s1, s2, s3, i64_w, i32_w]; rfl
           refine last_ (i := 5) (N := some 34) q6_8 rfl rfl (one_of HT_.out (by kernel_rfl)) (by decide) (fun K hK => ?_); refine Kd.R_append_step k114 (w0 := w) w.heap.size (by rfl) (.tmp 29) (.tmp 33) 42 114 (.agg #[(.string ⟨#[]⟩), (.string ⟨#[]⟩), (.bool false)]) 40 rfl Try.underlying42 info114 rfl (by decide) (by omega) u5 x5_1 (⟨(rd_T114 x0_1 0).f0, (rd_T114 x0_1 0).f1, (rd_T114 x0_1 0).f2⟩ : S114) [.string ((rd_T114 x0_1 0).f0), .string ((rd_T114 x0_1 0).f1), .bool ((rd_T114 x0_1 0).f2)] (fun k_ => (w.heap.size ≤ k_)) (fun _ => False) rfl rfl ?aP (fun _ hk => hk.elim) ?aF ?aO ?aB ?aS ?aL ?_; (case aP => exact k114_mkM _ _ _ (⟨(rd_T114 x0_1 0).f0, (rd_T114 x0_1 0).f1, (rd_T114 x0_1 0).f2⟩ : S114))
           (case aB => exact (by repeat (first | (with_reducible first | exact HB.out | apply wA | apply wN | apply wD) | exact HB.out)))
           (case aF => exact (fun k_ hk => (Nat.le_trans (below_size (by repeat (first | (with_reducible first | exact HB.out | apply wA | apply wN | apply wD) | exact HB.out))) hk)))
           (case aO => exact (by (with_reducible repeat (first | apply rA | apply rN | apply rD)); exact HO_5.out))
           (case aS => exact (below_size (by repeat (first | (with_reducible first | exact HB.out | apply wA | apply wN | apply wD) | exact HB.out))))
           (case aL => have := LMc13.out; omega)
           intro v175 w20 ho hb hg hat; rw [← Ny174.out] at ho; have n0_ := K0 (Kd.V_afterv (ok := (fun k_ => ((P0_ k_ ∨ P1_ k_) ∨ w.heap.size ≤ k_))) (by (with_reducible repeat (first | apply Kd.V_alloc | apply Kd.V_drewN | apply Kd.V_drew)); exact HO_0.out) hg hat); have n1_ := K0 (Kd.V_afterv (ok := (fun k_ => ((P0_ k_ ∨ P1_ k_) ∨ w.heap.size ≤ k_))) (by (with_reducible repeat (first | apply Kd.V_alloc | apply Kd.V_drewN | apply Kd.V_drew)); exact HO_1.out) hg hat); have n2_ := K0 (Kd.V_afterv (ok := (fun k_ => ((P0_ k_ ∨ P1_ k_) ∨ w.heap.size ≤ k_))) (by (with_reducible repeat (first | apply Kd.V_alloc | apply Kd.V_drewN | apply Kd.V_drew)); exact HO181.out) hg hat); have n3_ := K0 (hb); have n4_ := K0 (ho); clear HO_0 HO_1 HO181 HB HO_5; have HO_0 := n0_; have HO_1 := n1_; have HO181 := n2_; have HB := n3_; have HO176 := n4_; clear n0_ n1_ n2_ n3_ n4_ ho hb hg hat; refine hK.out _ _ ?_; clear hK K; refine norm_ (a' := ?_) ?_ ?_; rotate_left
           · show Act.put _ (some 34) _ = _; simp only [Act.put, s1, s2, s3, i64_w, i32_w]; rfl
           refine pure_ (i := 8) (N := some 5) (v := ?_) (a' := ?_) q6_9 rfl rfl (any_of HT_.out (by kernel_rfl)) (fun _ _ _ h => h) (Or.inl ⟨by rfl, ?_⟩) ?_ ?_; rotate_left
           · intro w'; go_simp; with_reducible rfl
           rotate_left
           · simp only [Act.put, s1, s2, s3, i64_w, i32_w]; rfl
           refine pure_ (i := 9) (N := some 0) (v := ?_) (a' := ?_) q6_10 rfl rfl (any_of HT_.out (by kernel_rfl)) (fun _ _ _ h => h) (Or.inl ⟨by rfl, ?_⟩) ?_ ?_; rotate_left
           · intro w'; go_simp; with_reducible rfl
           rotate_left
           · simp only [Act.put, s1, s2, s3, i64_w, i32_w]; rfl
           refine done_ (done_of HT_.out (by kernel_rfl)) ?_; try go_wp2
           go_roundg kj2
           case measure => have := HK1.out; have := HJ2.out; omega
           case rel => exact ⟨(y177), (x1_1), (y174), H', ⟨by have := HK1.out; have := HJ2.out; omega⟩, ⟨by (with_reducible repeat (first | apply Kd.V_alloc | apply Kd.V_drewN | apply Kd.V_drew)); exact HO181.out⟩, ⟨by (with_reducible repeat (first | apply Kd.V_alloc | apply Kd.V_drewN | apply Kd.V_drew)); exact HO_1.out⟩, ⟨by (with_reducible repeat (first | apply rA | apply rN | apply rD)); exact HO176.out⟩, ⟨by repeat (first | (with_reducible first | exact HB.out | apply wA | apply wN | apply wD) | exact HB.out)⟩⟩
          rw [if_neg c14] at H; exact absurd H (by simp)
         rw [if_neg c13] at H; exact absurd H (by simp)
        rw [if_neg c12] at H; have c12b0 : decide (t172 < 0) = false := dF c12; clear c12; by_cases c21 : t172 > 0
        ·
         rw [if_pos c21] at H; have c21b0 : decide (0 < t172) = true := dT c21; clear c21; by_cases c22 : x5_1.length < 3518437208883
         ·
          rw [if_pos c22] at H; have LMc22 := K0 c22; clear c22; obtain ⟨y183, hy183⟩ : ∃ y_ : List (S114), y_ = (x5_1 ++ [(⟨(rd_T114 x1_1 0).f0, (rd_T114 x1_1 0).f1, (rd_T114 x1_1 0).f2⟩ : S114)]) := ⟨_, rfl⟩; replace H : (if 1 ≤ (x1_1.length : Int) then (rev_merged.l0 kj2 x0_1 (x1_1.drop 1) y183) else (none)) = some r := by first | (rw [hy183]; with_reducible exact H) | (have H2_ := (Option.bind_some _ _).symm.trans H; rw [hy183]; with_reducible exact H2_) | (have H2_ := (Option.bind_some _ _).symm.trans H; with_reducible exact H2_) | with_reducible exact H | (rw [hy183]; exact H) | exact H
          have Ny183 := K0 hy183; clear hy183; by_cases c23 : 1 ≤ (x1_1.length : Int)
          ·
           rw [if_pos c23] at H; have c23b0 := eq_true c23; have c23b1 : decide (1 ≤ (x1_1.length : Int)) = true := dT c23; clear c23; obtain ⟨y186, hy186⟩ : ∃ y_ : List (S114), y_ = (x1_1.drop 1) := ⟨_, rfl⟩; replace H : (rev_merged.l0 kj2 x0_1 y186 y183) = some r := by first | (rw [hy186]; with_reducible exact H) | (have H2_ := (Option.bind_some _ _).symm.trans H; rw [hy186]; with_reducible exact H2_) | (have H2_ := (Option.bind_some _ _).symm.trans H; with_reducible exact H2_) | with_reducible exact H | (rw [hy186]; exact H) | exact H
           have Ny186 := K0 hy186; clear hy186; have H' := K0 H; clear H; try go_wp2
           have n0_ := K0 (Kd.V_drew HO_0.out); have n1_ := K0 (Kd.V_drew HO_1.out); have n2_ := K0 (rD HO_5.out); have n3_ := K0 (wD HB.out); clear HO_0 HO_1 HO_5 HB; have HO_0 := n0_; have HO_1 := n1_; have HO_5 := n2_; have HB := n3_; clear n0_ n1_ n2_ n3_; obtain ⟨Ao25, co25, eo25⟩ := Kd.V_slice HO_0.out; (first | subst eo25 | (injection eo25 with f1_ f2_ f3_; have f4_ := f1_.symm; have f5_ := f3_.symm; clear f1_ f2_ f3_; subst f4_; subst f5_))
           have p170 : 0 ≤ (0 : Int) := (by omega); have q170 : 0 < (x0_1.length : Int) := oT (by first | (with_reducible assumption) | assumption); obtain ⟨ad170, e170, hx170_0, hx170_1, hx170_2⟩ := at_T114 (Kd.V_reads' HO_0.out).2.2 0 p170 q170
           cases e170; have qi170 : (0 < x0_1.length) = True := eq_true (by omega); (try rw [show ((0 : Int)).toNat = 0 from rfl] at hx170_0)
           (try rw [show 0 * 3 = 0 from rfl] at hx170_0)
           (try rw [Addr.add_zero'] at hx170_0)
           (try rw [show ((0 : Int)).toNat = 0 from rfl] at hx170_1)
           (try rw [show 0 * 3 = 0 from rfl] at hx170_1)
           (try rw [Addr.add_zero'] at hx170_1)
           (try rw [show ((0 : Int)).toNat = 0 from rfl] at hx170_2)
           (try rw [show 0 * 3 = 0 from rfl] at hx170_2)
           (try rw [Addr.add_zero'] at hx170_2)
           replace p170 := eq_true p170; replace q170 := eq_true q170; obtain ⟨Ao26, co26, eo26⟩ := Kd.V_slice HO_1.out; (first | subst eo26 | (injection eo26 with f1_ f2_ f3_; have f4_ := f1_.symm; have f5_ := f3_.symm; clear f1_ f2_ f3_; subst f4_; subst f5_))
           have p171 : 0 ≤ (0 : Int) := (by omega); have q171 : 0 < (x1_1.length : Int) := oT (by first | (with_reducible assumption) | assumption); obtain ⟨ad171, e171, hx171_0, hx171_1, hx171_2⟩ := at_T114 (Kd.V_reads' HO_1.out).2.2 0 p171 q171
           cases e171; have qi171 : (0 < x1_1.length) = True := eq_true (by omega); (try rw [show ((0 : Int)).toNat = 0 from rfl] at hx171_0)
           (try rw [show 0 * 3 = 0 from rfl] at hx171_0)
           (try rw [Addr.add_zero'] at hx171_0)
           (try rw [show ((0 : Int)).toNat = 0 from rfl] at hx171_1)
           (try rw [show 0 * 3 = 0 from rfl] at hx171_1)
           (try rw [Addr.add_zero'] at hx171_1)
           (try rw [show ((0 : Int)).toNat = 0 from rfl] at hx171_2)
           (try rw [show 0 * 3 = 0 from rfl] at hx171_2)
           (try rw [Addr.add_zero'] at hx171_2)
           replace p171 := eq_true p171; replace q171 := eq_true q171; refine start_ (n := 10) (S := fun w' => w'.cell? ad170 = some (.string ((rd_T114 x0_1 0).f0)) ∧ w'.cell? ⟨ad170.block, ad170.off + 1, none⟩ = some (.string ((rd_T114 x0_1 0).f1)) ∧ w'.cell? ⟨ad170.block, ad170.off + 2, none⟩ = some (.bool ((rd_T114 x0_1 0).f2)) ∧ w'.cell? ad171 = some (.string ((rd_T114 x1_1 0).f0)) ∧ w'.cell? ⟨ad171.block, ad171.off + 1, none⟩ = some (.string ((rd_T114 x1_1 0).f1)) ∧ w'.cell? ⟨ad171.block, ad171.off + 2, none⟩ = some (.bool ((rd_T114 x1_1 0).f2))) (ds := []) q6_0 (by kernel_rfl) rfl rfl ⟨hx170_0, hx170_1, hx170_2, hx171_0, hx171_1, hx171_2⟩ (fun hHeld => ?_); refine with_tabW rev_merged.tab3 rev_merged.bits3 (fun HT_ HW_ => ?_)
           generalize wc.drew = w24 at HO_0 HO_1 HO_5 HB hx170_0 hx170_1 hx170_2 hx171_0 hx171_1 hx171_2 hHeld ⊢; refine pure_ (i := 0) (N := some 15) (v := ?_) (a' := ?_) q6_1 rfl rfl (any_of HT_.out (by kernel_rfl)) (fun _ _ _ h => h) (Or.inl ⟨by rfl, ?_⟩) ?_ ?_; rotate_left
           · intro w'; go_simp; with_reducible rfl
           rotate_left
           · simp only [Act.put, s1, s2, s3, i64_w, i32_w]; rfl
           refine pure_ (i := 1) (N := some 16) (v := ?_) (a' := ?_) q6_2 rfl rfl (any_of HT_.out (by kernel_rfl)) (fun _ _ _ h => h) (Or.inl ⟨by rfl, ?_⟩) ?_ ?_; rotate_left
           · intro w'; go_simp; with_reducible rfl
           rotate_left
           · simp only [Act.put, s1, s2, s3, i64_w, i32_w]; rfl
           refine pure_ (i := 2) (N := some 17) (v := ?_) (a' := ?_) q6_3 rfl rfl (any_of HT_.out (by kernel_rfl)) (fun _ _ _ h => h) (Or.inl ⟨by rfl, ?_⟩) ?_ ?_; rotate_left
           · intro w'; go_simp; with_reducible rfl
           rotate_left
           · simp only [Act.put, s1, s2, s3, i64_w, i32_w]; rfl
           refine pure_ (i := 4) (N := some 19) (v := ?_) (a' := ?_) q6_4 rfl rfl (any_of HT_.out (by kernel_rfl)) (fun _ _ _ h => h) (Or.inl ⟨by rfl, ?_⟩) ?_ ?_; rotate_left
           · intro w'; go_simp; with_reducible rfl
           rotate_left
           · simp only [Act.put, s1, s2, s3, i64_w, i32_w]; rfl
           refine pure_ (i := 5) (N := some 20) (v := ?_) (a' := ?_) q6_5 rfl rfl (any_of HT_.out (by kernel_rfl)) (fun _ _ _ h => h) (Or.inl ⟨by rfl, ?_⟩) ?_ ?_; rotate_left
           · intro w'; go_simp; with_reducible rfl
           rotate_left
           · simp only [Act.put, s1, s2, s3, i64_w, i32_w]; rfl
           refine pure_ (i := 6) (N := some 21) (v := ?_) (a' := ?_) q6_6 rfl rfl (any_of HT_.out (by kernel_rfl)) (fun _ _ _ h => h) (Or.inl ⟨by rfl, ?_⟩) ?_ ?_; rotate_left
           · intro w'; go_simp; with_reducible rfl
           rotate_left
           · simp only [Act.put, s1, s2, s3, i64_w, i32_w]; rfl
           refine take_ (i := 3) (N := some 18) (v := ?_) (a' := ?_) q6_7 rfl rfl (take_ofW HT_.out HW_.out (by kernel_rfl)) (fun _ _ _ h => h) (Or.inl ⟨by rfl, ?_⟩) hHeld ?_ ?_; rotate_left
           · rintro w' ⟨s0, s1, s2, s3, s4, s5⟩; go_simp; with_reducible rfl
           rotate_left
           · simp only [Act.put, s1, s2, s3, i64_w, i32_w]; rfl
           refine take_ (i := 7) (N := some 22) (v := ?_) (a' := ?_) q6_8 rfl rfl (take_ofW HT_.out HW_.out (by kernel_rfl)) (fun _ _ _ h => h) (Or.inl ⟨by rfl, ?_⟩) hHeld ?_ ?_; rotate_left
           · rintro w' ⟨s0, s1, s2, s3, s4, s5⟩; go_simp; with_reducible rfl
           rotate_left
           · simp only [Act.put, s1, s2, s3, i64_w, i32_w]; rfl
           refine one_ (i := 8) (N := some 23) q6_9 rfl rfl (one_of HT_.out (by kernel_rfl)) (by decide) (fun K hK => ?_); refine goes_ Try.func87 (by kernel_rfl) rfl #[.string ((rd_T114 x0_1 0).f0), .string ((rd_T114 x1_1 0).f0)] (by rfl) rfl rfl (by (try simp only [List.map_toArray, List.map_cons, List.map_nil]); first | done | rfl | (simp only [lD, lT]; rfl)) ?_; with_reducible refine (cmp_Compare_string.calls ((rd_T114 x0_1 0).f0) ((rd_T114 x1_1 0).f0) t172 _ A11.out).mono ?_
           rintro e w' ⟨rfl, ⟨nd, rfl⟩⟩; refine ⟨_, rfl, ?_⟩; refine hK.out _ _ ⟨hHeld.1, hHeld.2.1, hHeld.2.2.1, hHeld.2.2.2.1, hHeld.2.2.2.2.1, hHeld.2.2.2.2.2⟩ (fun hHeld => ?_); clear hK K; refine norm_ (a' := ?_) ?_ ?_; rotate_left
           · show Act.put _ (some 23) _ = _; simp only [Act.put, s1, s2, s3, i64_w, i32_w]; rfl
           refine pure_ (i := 9) (N := some 6) (v := ?_) (a' := ?_) q6_10 rfl rfl (any_of HT_.out (by kernel_rfl)) (fun _ _ _ h => h) (Or.inl ⟨by rfl, ?_⟩) ?_ ?_; rotate_left
           · intro w'; go_simp; with_reducible rfl
           rotate_left
           · simp only [Act.put, s1, s2, s3, i64_w, i32_w]; rfl
           refine done_ (done_of HT_.out (by kernel_rfl)) ?_; try go_wp2
           (try (rw [drewN_self w24]; generalize hq_ : World.drewN w24 _ = w24; have n0_ : Aside0 (Kd.V k114 114 w24 w.heap.size (fun k_ => ((P0_ k_ ∨ P1_ k_) ∨ w.heap.size ≤ k_) ∧ some k_ ≠ (u5 : Value).ownBlock) (.slice (some ad170) x0_1.length co25) x0_1) := ⟨by rw [← hq_]; exact (by (with_reducible repeat (first | apply Kd.V_alloc | apply Kd.V_drewN | apply Kd.V_drew)); exact HO_0.out)⟩; have n1_ : Aside0 (Kd.V k114 114 w24 w.heap.size (fun k_ => ((P0_ k_ ∨ P1_ k_) ∨ w.heap.size ≤ k_) ∧ some k_ ≠ (u5 : Value).ownBlock) (.slice (some ad171) x1_1.length co26) x1_1) := ⟨by rw [← hq_]; exact (by (with_reducible repeat (first | apply Kd.V_alloc | apply Kd.V_drewN | apply Kd.V_drew)); exact HO_1.out)⟩; have n2_ : Aside0 (Kd.R k114 114 w24 w.heap.size (fun k_ => (w.heap.size ≤ k_)) u5 x5_1) := ⟨by rw [← hq_]; exact (by (with_reducible repeat (first | apply rA | apply rN | apply rD)); exact HO_5.out)⟩; have n3_ : Aside0 (Below w.heap.size w w24) := ⟨by rw [← hq_]; exact (by repeat (first | (with_reducible first | exact HB.out | apply wA | apply wN | apply wD) | exact HB.out))⟩; clear HO_0 HO_1 HO_5 HB hq_; have HO_0 := n0_; have HO_1 := n1_; have HO_5 := n2_; have HB := n3_; clear n0_ n1_ n2_ n3_))
           have n0_ := K0 (Kd.V_drew HO_0.out); have n1_ := K0 (Kd.V_drew HO_1.out); have n2_ := K0 (rD HO_5.out); have n3_ := K0 (wD HB.out); clear HO_0 HO_1 HO_5 HB; have HO_0 := n0_; have HO_1 := n1_; have HO_5 := n2_; have HB := n3_; clear n0_ n1_ n2_ n3_; have p182 : 0 ≤ (0 : Int) := (by omega); have q182 : 0 < (x1_1.length : Int) := oT (by first | (with_reducible assumption) | assumption); obtain ⟨ad182, e182, hx182_0, hx182_1, hx182_2⟩ := at_T114 (Kd.V_reads' HO_1.out).2.2 0 p182 q182; obtain rfl : ad171 = ad182 := (by injection e182); have qi182 : (0 < x1_1.length) = True := eq_true (by omega); (try rw [show ((0 : Int)).toNat = 0 from rfl] at hx182_0)
           (try rw [show 0 * 3 = 0 from rfl] at hx182_0)
           (try rw [Addr.add_zero'] at hx182_0)
           (try rw [show ((0 : Int)).toNat = 0 from rfl] at hx182_1)
           (try rw [show 0 * 3 = 0 from rfl] at hx182_1)
           (try rw [Addr.add_zero'] at hx182_1)
           (try rw [show ((0 : Int)).toNat = 0 from rfl] at hx182_2)
           (try rw [show 0 * 3 = 0 from rfl] at hx182_2)
           (try rw [Addr.add_zero'] at hx182_2)
           replace p182 := eq_true p182; replace q182 := eq_true q182; have q28 : (1 : Int) ≤ ((x1_1.length : Int) : Int) := oT (by first | (with_reducible assumption) | assumption); obtain ⟨i028, hi028, _, hsz28, _⟩ := info_parts info114; have hroom28 : x1_1.length ≤ co26 := (Kd.V_reads' HO_1.out).2.1; have hC28 : Kd.F k114 _ _ (some ad171) x1_1.length x1_1 := (Kd.V_at (base := w.heap.size) HO_1.out).2.2; have hcut28 := cut_from (P := Try.prog) 42 114 .i64 Try.underlying42 hi028 3 hsz28 (some ad171) x1_1.length co26 1 (by omega) q28; have hr28 := Kd.F_cut (m := (1 : Int).toNat) (c := co26) hC28 (by omega) hroom28; obtain ⟨A28, hA28⟩ : ∃ A1, A1 = (if co26 = (1 : Int).toNat then (some ad171) else ((some ad171) : Option Addr).map (·.add ((1 : Int).toNat * 3))) := ⟨_, rfl⟩; obtain ⟨c28, hc28⟩ : ∃ c1, c1 = co26 - (1 : Int).toNat := ⟨_, rfl⟩; have hy28 : y186.length = x1_1.length - (1 : Int).toNat := (by rw [Ny186.out, lD] <;> omega); rw [show (x1_1).drop (1 : Int).toNat = y186 from Ny186.out.symm] at hr28; replace hr28 : Kd.F k114 _ _ A28 y186.length y186 := (by rw [hA28]; exact hr28); rw [← hy28, ← hA28, ← hc28] at hcut28; have HO190 := K0 (show Kd.V k114 114 _ w.heap.size _ (.slice A28 y186.length c28) y186 from Kd.V_mk (by rw [hy28, hc28]; exact Nat.sub_le_sub_right hroom28 _) hr28); have HC190 := K0 (show y186.length ≤ c28 from by rw [hy28, hc28]; exact Nat.sub_le_sub_right hroom28 _); clear hr28 hC28 hroom28 hi028 hsz28 hc28; have KY28 := K0 hy28; have KA28 := K0 hA28; clear hy28 hA28; replace q28 := eq_true q28; refine start_ (n := 10) (S := fun w' => w'.cell? ad171 = some (.string ((rd_T114 x1_1 0).f0)) ∧ w'.cell? ⟨ad171.block, ad171.off + 1, none⟩ = some (.string ((rd_T114 x1_1 0).f1)) ∧ w'.cell? ⟨ad171.block, ad171.off + 2, none⟩ = some (.bool ((rd_T114 x1_1 0).f2))) (ds := [4, 5]) q6_0 (by kernel_rfl) rfl rfl ⟨hx182_0, hx182_1, hx182_2⟩ (fun hHeld => ?_); refine with_tabW rev_merged.tab8 rev_merged.bits8 (fun HT_ HW_ => ?_)
           generalize w24.drew = w27 at HO_0 HO_1 HO_5 HB HO190 hx182_0 hx182_1 hx182_2 hHeld ⊢; refine pure_ (i := 0) (N := some 40) (v := ?_) (a' := ?_) q6_1 rfl rfl (any_of HT_.out (by kernel_rfl)) (fun _ _ _ h => h) (Or.inl ⟨by rfl, ?_⟩) ?_ ?_; rotate_left
           · intro w'; go_simp; with_reducible rfl
           rotate_left
           · simp only [Act.put, s1, s2, s3, i64_w, i32_w]; rfl
           refine pure_ (i := 1) (N := some 41) (v := ?_) (a' := ?_) q6_2 rfl rfl (any_of HT_.out (by kernel_rfl)) (fun _ _ _ h => h) (Or.inl ⟨by rfl, ?_⟩) ?_ ?_; rotate_left
           · intro w'; go_simp; with_reducible rfl
           rotate_left
           · simp only [Act.put, s1, s2, s3, i64_w, i32_w]; rfl
           refine pure_ (i := 2) (N := some 42) (v := ?_) (a' := ?_) q6_3 rfl rfl (any_of HT_.out (by kernel_rfl)) (fun _ _ _ h => h) (Or.inl ⟨by rfl, ?_⟩) ?_ ?_; rotate_left
           · intro w'; go_simp; with_reducible rfl
           rotate_left
           · simp only [Act.put, s1, s2, s3, i64_w, i32_w]; rfl
           refine pure_ (i := 6) (N := some 46) (v := ?_) (a' := ?_) q6_11 rfl rfl (any_of HT_.out (by kernel_rfl)) (fun _ _ _ h => h) (Or.inl ⟨by rfl, ?_⟩) ?_ ?_; rotate_left
           · intro w'; go_simp; with_reducible rfl
           rotate_left
           · simp only [Act.put, s1, s2, s3, i64_w, i32_w]; rfl
           refine pure_ (i := 7) (N := some 47) (v := ?_) (a' := ?_) q6_12 rfl rfl (any_of HT_.out (by kernel_rfl)) (fun _ _ _ h => h) (Or.inl ⟨by rfl, ?_⟩) ?_ ?_; rotate_left
           · intro w'; go_simp; with_reducible rfl
           rotate_left
           · simp only [Act.put, s1, s2, s3, i64_w, i32_w]; rfl
           refine take_ (i := 3) (N := some 43) (v := ?_) (a' := ?_) q6_13 rfl rfl (take_ofW HT_.out HW_.out (by kernel_rfl)) (fun _ _ _ h => h) (Or.inl ⟨by rfl, ?_⟩) hHeld ?_ ?_; rotate_left
           · rintro w' ⟨s0, s1, s2⟩; go_simp; with_reducible rfl
           rotate_left
           · simp only [Act.put, s1, s2, s3, i64_w, i32_w]; rfl
           refine last_ (i := 4) (N := some 44) q6_14 rfl rfl (one_of HT_.out (by kernel_rfl)) (by decide) (fun K hK => ?_); refine value_ (w1 := ?_) (v := ?_) (by rfl) rfl ?_ ?_; rotate_left 2
           ·
            go_simp; constructor
            · rfl
            rfl
           refine hK.out _ _ ?_; clear hK K; refine norm_ (a' := ?_) ?_ ?_; rotate_left
           · show Act.put _ (some 44) _ = _; simp only [Act.put, s1, s2, s3, i64_w, i32_w]; rfl
           refine last_ (i := 5) (N := some 45) q6_8 rfl rfl (one_of HT_.out (by kernel_rfl)) (by decide) (fun K hK => ?_); refine Kd.R_append_step k114 (w0 := w) w.heap.size (by rfl) (.tmp 40) (.tmp 44) 42 114 (.agg #[(.string ⟨#[]⟩), (.string ⟨#[]⟩), (.bool false)]) 40 rfl Try.underlying42 info114 rfl (by decide) (by omega) u5 x5_1 (⟨(rd_T114 x1_1 0).f0, (rd_T114 x1_1 0).f1, (rd_T114 x1_1 0).f2⟩ : S114) [.string ((rd_T114 x1_1 0).f0), .string ((rd_T114 x1_1 0).f1), .bool ((rd_T114 x1_1 0).f2)] (fun k_ => (w.heap.size ≤ k_)) (fun _ => False) rfl rfl ?aP (fun _ hk => hk.elim) ?aF ?aO ?aB ?aS ?aL ?_; (case aP => exact k114_mkM _ _ _ (⟨(rd_T114 x1_1 0).f0, (rd_T114 x1_1 0).f1, (rd_T114 x1_1 0).f2⟩ : S114))
           (case aB => exact (by repeat (first | (with_reducible first | exact HB.out | apply wA | apply wN | apply wD) | exact HB.out)))
           (case aF => exact (fun k_ hk => (Nat.le_trans (below_size (by repeat (first | (with_reducible first | exact HB.out | apply wA | apply wN | apply wD) | exact HB.out))) hk)))
           (case aO => exact (by (with_reducible repeat (first | apply rA | apply rN | apply rD)); exact HO_5.out))
           (case aS => exact (below_size (by repeat (first | (with_reducible first | exact HB.out | apply wA | apply wN | apply wD) | exact HB.out))))
           (case aL => have := LMc22.out; omega)
           intro v184 w29 ho hb hg hat; rw [← Ny183.out] at ho; have n0_ := K0 (Kd.V_afterv (ok := (fun k_ => ((P0_ k_ ∨ P1_ k_) ∨ w.heap.size ≤ k_))) (by (with_reducible repeat (first | apply Kd.V_alloc | apply Kd.V_drewN | apply Kd.V_drew)); exact HO_0.out) hg hat); have n1_ := K0 (Kd.V_afterv (ok := (fun k_ => ((P0_ k_ ∨ P1_ k_) ∨ w.heap.size ≤ k_))) (by (with_reducible repeat (first | apply Kd.V_alloc | apply Kd.V_drewN | apply Kd.V_drew)); exact HO_1.out) hg hat); have n2_ := K0 (Kd.V_afterv (ok := (fun k_ => ((P0_ k_ ∨ P1_ k_) ∨ w.heap.size ≤ k_))) (by (with_reducible repeat (first | apply Kd.V_alloc | apply Kd.V_drewN | apply Kd.V_drew)); exact HO190.out) hg hat); have n3_ := K0 (hb); have n4_ := K0 (ho); clear HO_0 HO_1 HO190 HB HO_5; have HO_0 := n0_; have HO_1 := n1_; have HO190 := n2_; have HB := n3_; have HO185 := n4_; clear n0_ n1_ n2_ n3_ n4_ ho hb hg hat; refine hK.out _ _ ?_; clear hK K; refine norm_ (a' := ?_) ?_ ?_; rotate_left
           · show Act.put _ (some 45) _ = _; simp only [Act.put, s1, s2, s3, i64_w, i32_w]; rfl
           refine pure_ (i := 8) (N := some 5) (v := ?_) (a' := ?_) q6_9 rfl rfl (any_of HT_.out (by kernel_rfl)) (fun _ _ _ h => h) (Or.inl ⟨by rfl, ?_⟩) ?_ ?_; rotate_left
           · intro w'; go_simp; with_reducible rfl
           rotate_left
           · simp only [Act.put, s1, s2, s3, i64_w, i32_w]; rfl
           refine pure_ (i := 9) (N := some 1) (v := ?_) (a' := ?_) q6_10 rfl rfl (any_of HT_.out (by kernel_rfl)) (fun _ _ _ h => h) (Or.inl ⟨by rfl, ?_⟩) ?_ ?_; rotate_left
           · intro w'; go_simp; with_reducible rfl
           rotate_left
           · simp only [Act.put, s1, s2, s3, i64_w, i32_w]; rfl
           refine done_ (done_of HT_.out (by kernel_rfl)) ?_; try go_wp2
           go_roundg kj2
           case measure => have := HK1.out; have := HJ2.out; omega
           case rel => exact ⟨(x0_1), (y186), (y183), H', ⟨by have := HK1.out; have := HJ2.out; omega⟩, ⟨by (with_reducible repeat (first | apply Kd.V_alloc | apply Kd.V_drewN | apply Kd.V_drew)); exact HO_0.out⟩, ⟨by (with_reducible repeat (first | apply Kd.V_alloc | apply Kd.V_drewN | apply Kd.V_drew)); exact HO190.out⟩, ⟨by (with_reducible repeat (first | apply rA | apply rN | apply rD)); exact HO185.out⟩, ⟨by repeat (first | (with_reducible first | exact HB.out | apply wA | apply wN | apply wD) | exact HB.out)⟩⟩
          rw [if_neg c23] at H; exact absurd H (by simp)
         rw [if_neg c22] at H; exact absurd H (by simp)
        rw [if_neg c21] at H; have c21b0 : decide (0 < t172) = false := dF c21; clear c21; by_cases c30 : 1 ≤ (x0_1.length : Int)
        ·
         rw [if_pos c30] at H; have c30b0 := eq_true c30; have c30b1 : decide (1 ≤ (x0_1.length : Int)) = true := dT c30; clear c30; obtain ⟨y191, hy191⟩ : ∃ y_ : List (S114), y_ = (x0_1.drop 1) := ⟨_, rfl⟩; replace H : (rev_merged.l0 kj2 y191 x1_1 x5_1) = some r := by first | (rw [hy191]; with_reducible exact H) | (have H2_ := (Option.bind_some _ _).symm.trans H; rw [hy191]; with_reducible exact H2_) | (have H2_ := (Option.bind_some _ _).symm.trans H; with_reducible exact H2_) | with_reducible exact H | (rw [hy191]; exact H) | exact H
         have Ny191 := K0 hy191; clear hy191; have H' := K0 H; clear H; try go_wp2
         have n0_ := K0 (Kd.V_drew HO_0.out); have n1_ := K0 (Kd.V_drew HO_1.out); have n2_ := K0 (rD HO_5.out); have n3_ := K0 (wD HB.out); clear HO_0 HO_1 HO_5 HB; have HO_0 := n0_; have HO_1 := n1_; have HO_5 := n2_; have HB := n3_; clear n0_ n1_ n2_ n3_; obtain ⟨Ao32, co32, eo32⟩ := Kd.V_slice HO_0.out; (first | subst eo32 | (injection eo32 with f1_ f2_ f3_; have f4_ := f1_.symm; have f5_ := f3_.symm; clear f1_ f2_ f3_; subst f4_; subst f5_))
         have p170 : 0 ≤ (0 : Int) := (by omega); have q170 : 0 < (x0_1.length : Int) := oT (by first | (with_reducible assumption) | assumption); obtain ⟨ad170, e170, hx170_0, hx170_1, hx170_2⟩ := at_T114 (Kd.V_reads' HO_0.out).2.2 0 p170 q170
         cases e170; have qi170 : (0 < x0_1.length) = True := eq_true (by omega); (try rw [show ((0 : Int)).toNat = 0 from rfl] at hx170_0)
         (try rw [show 0 * 3 = 0 from rfl] at hx170_0)
         (try rw [Addr.add_zero'] at hx170_0)
         (try rw [show ((0 : Int)).toNat = 0 from rfl] at hx170_1)
         (try rw [show 0 * 3 = 0 from rfl] at hx170_1)
         (try rw [Addr.add_zero'] at hx170_1)
         (try rw [show ((0 : Int)).toNat = 0 from rfl] at hx170_2)
         (try rw [show 0 * 3 = 0 from rfl] at hx170_2)
         (try rw [Addr.add_zero'] at hx170_2)
         replace p170 := eq_true p170; replace q170 := eq_true q170; obtain ⟨Ao33, co33, eo33⟩ := Kd.V_slice HO_1.out; (first | subst eo33 | (injection eo33 with f1_ f2_ f3_; have f4_ := f1_.symm; have f5_ := f3_.symm; clear f1_ f2_ f3_; subst f4_; subst f5_))
         have p171 : 0 ≤ (0 : Int) := (by omega); have q171 : 0 < (x1_1.length : Int) := oT (by first | (with_reducible assumption) | assumption); obtain ⟨ad171, e171, hx171_0, hx171_1, hx171_2⟩ := at_T114 (Kd.V_reads' HO_1.out).2.2 0 p171 q171
         cases e171; have qi171 : (0 < x1_1.length) = True := eq_true (by omega); (try rw [show ((0 : Int)).toNat = 0 from rfl] at hx171_0)
         (try rw [show 0 * 3 = 0 from rfl] at hx171_0)
         (try rw [Addr.add_zero'] at hx171_0)
         (try rw [show ((0 : Int)).toNat = 0 from rfl] at hx171_1)
         (try rw [show 0 * 3 = 0 from rfl] at hx171_1)
         (try rw [Addr.add_zero'] at hx171_1)
         (try rw [show ((0 : Int)).toNat = 0 from rfl] at hx171_2)
         (try rw [show 0 * 3 = 0 from rfl] at hx171_2)
         (try rw [Addr.add_zero'] at hx171_2)
         replace p171 := eq_true p171; replace q171 := eq_true q171; refine start_ (n := 10) (S := fun w' => w'.cell? ad170 = some (.string ((rd_T114 x0_1 0).f0)) ∧ w'.cell? ⟨ad170.block, ad170.off + 1, none⟩ = some (.string ((rd_T114 x0_1 0).f1)) ∧ w'.cell? ⟨ad170.block, ad170.off + 2, none⟩ = some (.bool ((rd_T114 x0_1 0).f2)) ∧ w'.cell? ad171 = some (.string ((rd_T114 x1_1 0).f0)) ∧ w'.cell? ⟨ad171.block, ad171.off + 1, none⟩ = some (.string ((rd_T114 x1_1 0).f1)) ∧ w'.cell? ⟨ad171.block, ad171.off + 2, none⟩ = some (.bool ((rd_T114 x1_1 0).f2))) (ds := []) q6_0 (by kernel_rfl) rfl rfl ⟨hx170_0, hx170_1, hx170_2, hx171_0, hx171_1, hx171_2⟩ (fun hHeld => ?_); refine with_tabW rev_merged.tab3 rev_merged.bits3 (fun HT_ HW_ => ?_)
         generalize wc.drew = w31 at HO_0 HO_1 HO_5 HB hx170_0 hx170_1 hx170_2 hx171_0 hx171_1 hx171_2 hHeld ⊢; refine pure_ (i := 0) (N := some 15) (v := ?_) (a' := ?_) q6_1 rfl rfl (any_of HT_.out (by kernel_rfl)) (fun _ _ _ h => h) (Or.inl ⟨by rfl, ?_⟩) ?_ ?_; rotate_left
         · intro w'; go_simp; with_reducible rfl
         rotate_left
         · simp only [Act.put, s1, s2, s3, i64_w, i32_w]; rfl
         refine pure_ (i := 1) (N := some 16) (v := ?_) (a' := ?_) q6_2 rfl rfl (any_of HT_.out (by kernel_rfl)) (fun _ _ _ h => h) (Or.inl ⟨by rfl, ?_⟩) ?_ ?_; rotate_left
         · intro w'; go_simp; with_reducible rfl
         rotate_left
         · simp only [Act.put, s1, s2, s3, i64_w, i32_w]; rfl
         refine pure_ (i := 2) (N := some 17) (v := ?_) (a' := ?_) q6_3 rfl rfl (any_of HT_.out (by kernel_rfl)) (fun _ _ _ h => h) (Or.inl ⟨by rfl, ?_⟩) ?_ ?_; rotate_left
         · intro w'; go_simp; with_reducible rfl
         rotate_left
         · simp only [Act.put, s1, s2, s3, i64_w, i32_w]; rfl
         refine pure_ (i := 4) (N := some 19) (v := ?_) (a' := ?_) q6_4 rfl rfl (any_of HT_.out (by kernel_rfl)) (fun _ _ _ h => h) (Or.inl ⟨by rfl, ?_⟩) ?_ ?_; rotate_left
         · intro w'; go_simp; with_reducible rfl
         rotate_left
         · simp only [Act.put, s1, s2, s3, i64_w, i32_w]; rfl
         refine pure_ (i := 5) (N := some 20) (v := ?_) (a' := ?_) q6_5 rfl rfl (any_of HT_.out (by kernel_rfl)) (fun _ _ _ h => h) (Or.inl ⟨by rfl, ?_⟩) ?_ ?_; rotate_left
         · intro w'; go_simp; with_reducible rfl
         rotate_left
         · simp only [Act.put, s1, s2, s3, i64_w, i32_w]; rfl
         refine pure_ (i := 6) (N := some 21) (v := ?_) (a' := ?_) q6_6 rfl rfl (any_of HT_.out (by kernel_rfl)) (fun _ _ _ h => h) (Or.inl ⟨by rfl, ?_⟩) ?_ ?_; rotate_left
         · intro w'; go_simp; with_reducible rfl
         rotate_left
         · simp only [Act.put, s1, s2, s3, i64_w, i32_w]; rfl
         refine take_ (i := 3) (N := some 18) (v := ?_) (a' := ?_) q6_7 rfl rfl (take_ofW HT_.out HW_.out (by kernel_rfl)) (fun _ _ _ h => h) (Or.inl ⟨by rfl, ?_⟩) hHeld ?_ ?_; rotate_left
         · rintro w' ⟨s0, s1, s2, s3, s4, s5⟩; go_simp; with_reducible rfl
         rotate_left
         · simp only [Act.put, s1, s2, s3, i64_w, i32_w]; rfl
         refine take_ (i := 7) (N := some 22) (v := ?_) (a' := ?_) q6_8 rfl rfl (take_ofW HT_.out HW_.out (by kernel_rfl)) (fun _ _ _ h => h) (Or.inl ⟨by rfl, ?_⟩) hHeld ?_ ?_; rotate_left
         · rintro w' ⟨s0, s1, s2, s3, s4, s5⟩; go_simp; with_reducible rfl
         rotate_left
         · simp only [Act.put, s1, s2, s3, i64_w, i32_w]; rfl
         refine one_ (i := 8) (N := some 23) q6_9 rfl rfl (one_of HT_.out (by kernel_rfl)) (by decide) (fun K hK => ?_); refine goes_ Try.func87 (by kernel_rfl) rfl #[.string ((rd_T114 x0_1 0).f0), .string ((rd_T114 x1_1 0).f0)] (by rfl) rfl rfl (by (try simp only [List.map_toArray, List.map_cons, List.map_nil]); first | done | rfl | (simp only [lD, lT]; rfl)) ?_; with_reducible refine (cmp_Compare_string.calls ((rd_T114 x0_1 0).f0) ((rd_T114 x1_1 0).f0) t172 _ A11.out).mono ?_
         rintro e w' ⟨rfl, ⟨nd, rfl⟩⟩; refine ⟨_, rfl, ?_⟩; refine hK.out _ _ ⟨hHeld.1, hHeld.2.1, hHeld.2.2.1, hHeld.2.2.2.1, hHeld.2.2.2.2.1, hHeld.2.2.2.2.2⟩ (fun hHeld => ?_); clear hK K; refine norm_ (a' := ?_) ?_ ?_; rotate_left
         · show Act.put _ (some 23) _ = _; simp only [Act.put, s1, s2, s3, i64_w, i32_w]; rfl
         refine pure_ (i := 9) (N := some 6) (v := ?_) (a' := ?_) q6_10 rfl rfl (any_of HT_.out (by kernel_rfl)) (fun _ _ _ h => h) (Or.inl ⟨by rfl, ?_⟩) ?_ ?_; rotate_left
         · intro w'; go_simp; with_reducible rfl
         rotate_left
         · simp only [Act.put, s1, s2, s3, i64_w, i32_w]; rfl
         refine done_ (done_of HT_.out (by kernel_rfl)) ?_; have q34 : (1 : Int) ≤ ((x0_1.length : Int) : Int) := oT (by first | (with_reducible assumption) | assumption); obtain ⟨i034, hi034, _, hsz34, _⟩ := info_parts info114; have hroom34 : x0_1.length ≤ co32 := (Kd.V_reads' HO_0.out).2.1; have hC34 : Kd.F k114 _ _ (some ad170) x0_1.length x0_1 := (Kd.V_at (base := w.heap.size) HO_0.out).2.2; have hcut34 := cut_from (P := Try.prog) 42 114 .i64 Try.underlying42 hi034 3 hsz34 (some ad170) x0_1.length co32 1 (by omega) q34; have hr34 := Kd.F_cut (m := (1 : Int).toNat) (c := co32) hC34 (by omega) hroom34; obtain ⟨A34, hA34⟩ : ∃ A1, A1 = (if co32 = (1 : Int).toNat then (some ad170) else ((some ad170) : Option Addr).map (·.add ((1 : Int).toNat * 3))) := ⟨_, rfl⟩; obtain ⟨c34, hc34⟩ : ∃ c1, c1 = co32 - (1 : Int).toNat := ⟨_, rfl⟩; have hy34 : y191.length = x0_1.length - (1 : Int).toNat := (by rw [Ny191.out, lD] <;> omega); rw [show (x0_1).drop (1 : Int).toNat = y191 from Ny191.out.symm] at hr34; replace hr34 : Kd.F k114 _ _ A34 y191.length y191 := (by rw [hA34]; exact hr34); rw [← hy34, ← hA34, ← hc34] at hcut34; have HO195 := K0 (show Kd.V k114 114 _ w.heap.size _ (.slice A34 y191.length c34) y191 from Kd.V_mk (by rw [hy34, hc34]; exact Nat.sub_le_sub_right hroom34 _) hr34); have HC195 := K0 (show y191.length ≤ c34 from by rw [hy34, hc34]; exact Nat.sub_le_sub_right hroom34 _); clear hr34 hC34 hroom34 hi034 hsz34 hc34; have KY34 := K0 hy34; have KA34 := K0 hA34; clear hy34 hA34; replace q34 := eq_true q34; try go_wp2
         go_roundg kj2
         case measure => have := HK1.out; have := HJ2.out; omega
         case rel => exact ⟨(y191), (x1_1), (x5_1), H', ⟨by have := HK1.out; have := HJ2.out; omega⟩, ⟨by (with_reducible repeat (first | apply Kd.V_alloc | apply Kd.V_drewN | apply Kd.V_drew)); exact HO195.out⟩, ⟨by (with_reducible repeat (first | apply Kd.V_alloc | apply Kd.V_drewN | apply Kd.V_drew)); exact HO_1.out⟩, ⟨by (with_reducible repeat (first | apply rA | apply rN | apply rD)); exact HO_5.out⟩, ⟨by repeat (first | (with_reducible first | exact HB.out | apply wA | apply wN | apply wD) | exact HB.out)⟩⟩
        rw [if_neg c30] at H; exact absurd H (by simp)
       rw [if_neg c10] at H; exact absurd H (by simp)
      rw [if_neg c9] at H; exact absurd H (by simp)
     replace c8 := Bool.eq_false_iff.mpr c8; subst c8; have H1 : (if x5_1.length + x0_1.length < 3518437208883 then ((some (x5_1 ++ x0_1 : List (S114))).bind fun y164 => (if y164.length + x1_1.length < 3518437208883 then (some (y164 ++ x1_1)) else (none))) else (none)) = some r := by rw [if_neg (show ¬ (false = true) by decide)] at H; exact H
     clear H; have H := H1; clear H1; by_cases c35 : x5_1.length + x0_1.length < 3518437208883
     ·
      rw [if_pos c35] at H; have LMc35 := K0 c35; clear c35; obtain ⟨y164, hy164⟩ : ∃ y_ : List (S114), y_ = (x5_1 ++ x0_1) := ⟨_, rfl⟩; replace H : (if y164.length + x1_1.length < 3518437208883 then (some (y164 ++ x1_1)) else (none)) = some r := by first | (rw [hy164]; with_reducible exact H) | (have H2_ := (Option.bind_some _ _).symm.trans H; rw [hy164]; with_reducible exact H2_) | (have H2_ := (Option.bind_some _ _).symm.trans H; with_reducible exact H2_) | with_reducible exact H | (rw [hy164]; exact H) | exact H
      have Ny164 := K0 hy164; clear hy164; by_cases c36 : y164.length + x1_1.length < 3518437208883
      ·
       rw [if_pos c36] at H; have LMc36 := K0 c36; clear c36; obtain ⟨y167, hy167⟩ : ∃ y_ : List (S114), y_ = (y164 ++ x1_1) := ⟨_, rfl⟩; replace H : (some y167) = some r := by first | (rw [hy167]; with_reducible exact H) | (have H2_ := (Option.bind_some _ _).symm.trans H; rw [hy167]; with_reducible exact H2_) | (have H2_ := (Option.bind_some _ _).symm.trans H; with_reducible exact H2_) | with_reducible exact H | (rw [hy167]; exact H) | exact H
       have Ny167 := K0 hy167; clear hy167; obtain rfl := Option.some.inj H; obtain ⟨Ao38, co38, eo38⟩ := Kd.V_slice HO_0.out; subst eo38; go_wp2_with (first | ((with_reducible refine gate_builtin (b := .append) (xs := #[.tmp 48, .tmp 49]) rfl ?_); (try (refine gate_guard (by rfl) ?_; dsimp only)); at_builtin; refine Kd.R_append_rows k114 (w0 := w) w.heap.size rfl (.tmp 48) (.tmp 49) 42 114 (.agg #[(.string ⟨#[]⟩), (.string ⟨#[]⟩), (.bool false)]) 40 rfl Try.underlying42 info114 rfl (by decide) (by omega) u5 x5_1 x0_1 _ _ _ (fun k_ => (w.heap.size ≤ k_)) (fun _ => False) rfl rfl ?aO ?aR (fun _ _ h => h) (fun _ h => h.elim) ?aF ?aB ?aS ?aL ?_; (case aR => repeat (first | exact (Kd.V_reads' HO_0.out).2.2 | (with_reducible refine Kd.C_alloc ?_ _) | (with_reducible refine Kd.C_drewN ?_ _) | (with_reducible refine Kd.C_drew ?_))); (case aB => exact (by repeat (first | (with_reducible first | exact HB.out | apply wA | apply wN | apply wD) | exact HB.out))); (case aF => exact (fun k_ hk => (Nat.le_trans (below_size (by repeat (first | (with_reducible first | exact HB.out | apply wA | apply wN | apply wD) | exact HB.out))) hk))); (case aO => exact (by (with_reducible repeat (first | apply rA | apply rN | apply rD)); exact HO_5.out)); (case aS => exact (below_size (by repeat (first | (with_reducible first | exact HB.out | apply wA | apply wN | apply wD) | exact HB.out)))); (case aL => have := LMc35.out; omega); intro v165 w37 ho hb hg hat; rw [← Ny164.out] at ho; have n0_ := K0 (Kd.V_afterv (ok := (fun k_ => ((P0_ k_ ∨ P1_ k_) ∨ w.heap.size ≤ k_))) (by (with_reducible repeat (first | apply Kd.V_alloc | apply Kd.V_drewN | apply Kd.V_drew)); exact HO_0.out) hg hat); have n1_ := K0 (Kd.V_afterv (ok := (fun k_ => ((P0_ k_ ∨ P1_ k_) ∨ w.heap.size ≤ k_))) (by (with_reducible repeat (first | apply Kd.V_alloc | apply Kd.V_drewN | apply Kd.V_drew)); exact HO_1.out) hg hat); have n2_ := K0 (hb); have n3_ := K0 (ho); clear HO_0; clear HO_1; clear HB; clear HO_5; have HO_0 := n0_; have HO_1 := n1_; have HB := n2_; have HO166 := n3_; clear n0_ n1_ n2_ n3_; clear ho hb hg hat; obtain ⟨Ao40, co40, eo40⟩ := Kd.V_slice HO_1.out; subst eo40) | ((with_reducible refine gate_builtin (b := .append) (xs := #[.tmp 50, .tmp 51]) rfl ?_); (try (refine gate_guard (by rfl) ?_; dsimp only)); at_builtin; refine Kd.R_append_rows k114 (w0 := w) w.heap.size rfl (.tmp 50) (.tmp 51) 42 114 (.agg #[(.string ⟨#[]⟩), (.string ⟨#[]⟩), (.bool false)]) 40 rfl Try.underlying42 info114 rfl (by decide) (by omega) v165 y164 x1_1 _ _ _ (fun k_ => (w.heap.size ≤ k_)) (fun _ => False) rfl rfl ?aO ?aR (fun _ _ h => h) (fun _ h => h.elim) ?aF ?aB ?aS ?aL ?_; (case aR => repeat (first | exact (Kd.V_reads' HO_1.out).2.2 | (with_reducible refine Kd.C_alloc ?_ _) | (with_reducible refine Kd.C_drewN ?_ _) | (with_reducible refine Kd.C_drew ?_))); (case aB => exact (by repeat (first | (with_reducible first | exact HB.out | apply wA | apply wN | apply wD) | exact HB.out))); (case aF => exact (fun k_ hk => (Nat.le_trans (below_size (by repeat (first | (with_reducible first | exact HB.out | apply wA | apply wN | apply wD) | exact HB.out))) hk))); (case aO => exact (by (with_reducible repeat (first | apply rA | apply rN | apply rD)); exact HO166.out)); (case aS => exact (below_size (by repeat (first | (with_reducible first | exact HB.out | apply wA | apply wN | apply wD) | exact HB.out)))); (case aL => have := LMc36.out; omega); intro v168 w39 ho hb hg hat; rw [← Ny167.out] at ho; have n0_ := K0 (Kd.V_afterv (ok := (fun k_ => ((P0_ k_ ∨ P1_ k_) ∨ w.heap.size ≤ k_))) (by (with_reducible repeat (first | apply Kd.V_alloc | apply Kd.V_drewN | apply Kd.V_drew)); exact HO_0.out) hg hat); have n1_ := K0 (Kd.V_afterv (ok := (fun k_ => ((P0_ k_ ∨ P1_ k_) ∨ w.heap.size ≤ k_))) (by (with_reducible repeat (first | apply Kd.V_alloc | apply Kd.V_drewN | apply Kd.V_drew)); exact HO_1.out) hg hat); have n2_ := K0 (hb); have n3_ := K0 (ho); clear HO_0; clear HO_1; clear HB; clear HO166; have HO_0 := n0_; have HO_1 := n1_; have HB := n2_; have HO169 := n3_; clear n0_ n1_ n2_ n3_; clear ho hb hg hat))
       go_ret; exact ⟨_, by first | rfl | (simp [errW_none, errW_some] <;> rfl) | (simp [*, errW_none, errW_some] <;> rfl), by (with_reducible repeat (first | apply rA | apply rN | apply rD)); exact HO169.out, by repeat (first | (with_reducible first | exact HB.out | apply wA | apply wN | apply wD) | exact HB.out)⟩
      rw [if_neg c36] at H; exact absurd H (by simp)
     rw [if_neg c35] at H; exact absurd H (by simp)
end Go.Proofs.Ytoaacdjcjicemaa.PRevBack
