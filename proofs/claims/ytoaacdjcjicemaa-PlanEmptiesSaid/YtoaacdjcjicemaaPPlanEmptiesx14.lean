-- written by a program of this session (the print, turned)
import Derived.Test.YtoaacdjcjicemaaPPlanEmptiesx0
import Derived.Test.YtoaacdjcjicemaaWAl
namespace Go.Proofs.Ytoaacdjcjicemaa.PPlanEmpties
open Go.RowKit Go.Proofs.YtoaacdjcjicemaaW.PrintWords Go.Proofs.YtoaacdjcjicemaaW.PrintLast Go.Proofs.YtoaacdjcjicemaaW.PrintMore
attribute [local go_sem] cell_self cell_there leq_str geq_str gtr_str max2_str max2_int min2_int max_two min_two max_three min_three max_four min_four   -- for this text's walks alone
set_option linter.unusedVariables false
set_option linter.unusedSimpArgs false
/-! ### rundleref18_Empties: function 46 -/
mutual
def rundleref18_Empties.l0 : Nat → List (S144) → Int → List Bool → Int → Option (List Bool)
 | 0, _, _, _, _ => none
 | k + 1, x0, x1, x5, x6 => if x6 < (x0.length : Int) then (rundleref18_Empties.l1 k x0 x1 x5 x6 (wrap64 (x6 - 1))) else (some x5)
def rundleref18_Empties.l1 : Nat → List (S144) → Int → List Bool → Int → Int → Option (List Bool)
 | 0, _, _, _, _, _ => none
 | k + 1, x0, x1, x5, x6, x7 => if x7 > 0 then (if 0 ≤ x7 then (if x7 < (x5.length : Int) then (if rdOf false x5 x7 = true then (rundleref18_Empties.l1 k x0 x1 x5 x6 (wrap64 (x7 - 1))) else (if 0 ≤ x6 then (if x6 < (x0.length : Int) then (if ((rd_T144 x0 x6).f0) ≤ x1 then (if ((rd_T144 x0 x6).f2) = 0 then (if x7 < (x0.length : Int) then (if x6 < (x5.length : Int) then (rundleref18_Empties.l0 k x0 x1 (x5.set (x6 : Int).toNat (decide (((rd_T144 x0 x7).f0) ≤ x1))) (wrap64 (x6 + 1))) else (none)) else (none)) else (if x6 < (x5.length : Int) then (rundleref18_Empties.l0 k x0 x1 (x5.set (x6 : Int).toNat false) (wrap64 (x6 + 1))) else (none))) else (if x6 < (x5.length : Int) then (rundleref18_Empties.l0 k x0 x1 (x5.set (x6 : Int).toNat false) (wrap64 (x6 + 1))) else (none))) else (none)) else (none))) else (none)) else (none)) else (if 0 ≤ x6 then (if x6 < (x0.length : Int) then (if ((rd_T144 x0 x6).f0) ≤ x1 then (if ((rd_T144 x0 x6).f2) = 0 then (if 0 ≤ x7 then (if x7 < (x0.length : Int) then (if x6 < (x5.length : Int) then (rundleref18_Empties.l0 k x0 x1 (x5.set (x6 : Int).toNat (decide (((rd_T144 x0 x7).f0) ≤ x1))) (wrap64 (x6 + 1))) else (none)) else (none)) else (none)) else (if x6 < (x5.length : Int) then (rundleref18_Empties.l0 k x0 x1 (x5.set (x6 : Int).toNat false) (wrap64 (x6 + 1))) else (none))) else (if x6 < (x5.length : Int) then (rundleref18_Empties.l0 k x0 x1 (x5.set (x6 : Int).toNat false) (wrap64 (x6 + 1))) else (none))) else (none)) else (none))
end
def rundleref18_Empties.f (k : Nat) (l0 : List (S144)) (a1 : Int) : Option (List Bool) := if 0 ≤ (l0.length : Int) then (if ((l0.length : Int) : Int).toNat ≤ 281474976710656 then (rundleref18_Empties.l0 k l0 a1 (List.replicate ((l0.length : Int) : Int).toNat false) 1) else (none)) else (none)
set_option maxHeartbeats 8000000 in
set_option maxRecDepth 100000 in
theorem rundleref18_Empties.calls (k : Nat) (A0 : Option Addr) (c0 : Nat) (l0 : List (S144)) (a1 : Int) (r : List Bool) (w : World) (hr0 : Kd.C k144 w A0 l0.length l0) (hc0 : l0.length ≤ c0) (h : rundleref18_Empties.f k l0 a1 = some r) :
  Calls Try.prog 46 #[.slice A0 l0.length c0, .int .i64 a1] w fun e w' => ∃ v0_ : Value, e = .returned (v0_) ∧ Kd.R Kd.bool 4 w' w.heap.size (fun _ => True) v0_ r ∧ Below w.heap.size w w' := by
 have HR0 := K0 hr0
 have HC0 := K0 hc0
 clear hr0 hc0
 have HB := K0 (Below.refl w.heap.size w)
 have H : (if 0 ≤ (l0.length : Int) then (if ((l0.length : Int) : Int).toNat ≤ 281474976710656 then (rundleref18_Empties.l0 k l0 a1 (List.replicate ((l0.length : Int) : Int).toNat false) 1) else (none)) else (none)) = some r := h
 clear h
 by_cases c3 : 0 ≤ (l0.length : Int)
 ·
  rw [if_pos c3] at H
  have c3b0 := eq_true c3
  have c3b1 : decide (0 ≤ (l0.length : Int)) = true := dT c3
  clear c3
  by_cases c4 : ((l0.length : Int) : Int).toNat ≤ 281474976710656
  ·
   rw [if_pos c4] at H; have c4b0 := eq_true c4; have c4b1 : decide (((l0.length : Int) : Int).toNat ≤ 281474976710656) = true := dT c4; clear c4; obtain ⟨y314, hy314⟩ : ∃ y_ : List Bool, y_ = (List.replicate ((l0.length : Int) : Int).toNat false) := ⟨_, rfl⟩; replace H : (rundleref18_Empties.l0 k l0 a1 y314 1) = some r := by first | (rw [hy314]; with_reducible exact H) | (have H2_ := (Option.bind_some _ _).symm.trans H; rw [hy314]; with_reducible exact H2_) | (have H2_ := (Option.bind_some _ _).symm.trans H; with_reducible exact H2_) | with_reducible exact H | (rw [hy314]; exact H) | exact H
   have Ny314 := K0 hy314; clear hy314; have H' := K0 H; clear H; go_enter Try.func46, Try.ntmps46
   go_wp2_with (first | ((with_reducible refine gate_dst (N := 10) rfl ?_); refine Kd.R_make Kd.bool _ 4 rfl (N := 10) rfl 34 _ _ rfl (l0.length : Int) rfl rfl Try.underlying34 (.bool false) 1 info4 rfl (by decide) (by omega) false (ok := fun _ => True) (okp := fun _ => True) rfl (fun _ hk => hk) trivial (oT (by first | (with_reducible assumption) | assumption)) (Nat.le_trans (Nat.mul_le_mul_right _ (oT (by first | (with_reducible assumption) | assumption) : (l0.length : Int).toNat ≤ 281474976710656)) (by omega)) (Below.refl _ _) (Nat.le_refl _) ?_; intro v315 w5 ho6 hb hg_ hnew_; clear hg_ hnew_; (first | rw [← Ny314.out] at ho6 | (simp only [Int.reduceToNat] at ho6; rw [← Ny314.out] at ho6)); have n0_ := K0 (Kd.R_lower ho6 (below_size (by repeat (first | (with_reducible first | exact HB.out | apply wA | apply wN | apply wD) | exact HB.out)))); have n1_ := K0 (below_step (by repeat (first | (with_reducible first | exact HB.out | apply wA | apply wN | apply wD) | exact HB.out)) hb); clear HB; have HO316 := n0_; have HB := n1_; clear n0_ n1_; clear hb ho6))
   go_loopg [6] k (fun kq v6 w' => ∃ (x5_1 : List Bool) (x6_1 : Int), v6 = .int .i64 x6_1 ∧ Aside0 (rundleref18_Empties.l0 kq l0 a1 x5_1 x6_1 = some r) ∧ Aside0 (kq ≤ k) ∧ Aside0 (Kd.R Kd.bool 4 w' w.heap.size (fun _ => True) v315 x5_1) ∧ Aside0 (Below w.heap.size w w'))
   case atStart => exact ⟨(y314), (1), (by first | rfl | (simp; done) | (simp [*]; done)), H', ⟨Nat.le_refl _⟩, ⟨by (with_reducible repeat (first | apply rA | apply rN | apply rD)); exact HO316.out⟩, ⟨by repeat (first | (with_reducible first | exact HB.out | apply wA | apply wN | apply wD) | exact HB.out)⟩⟩
   case round =>
    clear H'; try clear p2
    try clear c3
    try clear c3b0
    try clear c3b1
    try clear c4
    try clear c4b0
    try clear c4b1
    obtain ⟨x5_1, x6_1, rfl, HA, HK1, HO_5, HB⟩ := hrel
    cases gk with
    | zero => exact absurd HA.out (by simp [rundleref18_Empties.l0])
    | succ k1 =>
     have H := HA.out; clear HA; simp only [rundleref18_Empties.l0] at H; by_cases c7 : x6_1 < (l0.length : Int)
     ·
      rw [if_pos c7] at H; have c7b0 : decide (x6_1 < (l0.length : Int)) = true := dT c7; clear c7; have H' := K0 H; clear H; go_wp2
      go_loopg [7] k1 (fun kq v7 w' => ∃ (x7_2 : Int), v7 = .int .i64 x7_2 ∧ Aside0 (rundleref18_Empties.l1 kq l0 a1 x5_1 x6_1 x7_2 = some r) ∧ Aside0 (kq ≤ k1) ∧ Aside0 (Kd.R Kd.bool 4 w' w.heap.size (fun _ => True) v315 x5_1) ∧ Aside0 (Below w.heap.size w w'))
      case atStart => exact ⟨(wrap64 (x6_1 - 1)), (by first | rfl | (simp; done) | (simp [*]; done)), H', ⟨Nat.le_refl _⟩, ⟨by (with_reducible repeat (first | apply rA | apply rN | apply rD)); exact HO_5.out⟩, ⟨by repeat (first | (with_reducible first | exact HB.out | apply wA | apply wN | apply wD) | exact HB.out)⟩⟩
      case round =>
       clear H'; try clear p2
       try clear c3
       try clear c3b0
       try clear c3b1
       try clear c4
       try clear c4b0
       try clear c4b1
       try clear p6
       try clear c7
       try clear c7b0
       try clear p2
       obtain ⟨x7_2, rfl, HA, HK2, HO_5, HB⟩ := hrel
       cases gk with
       | zero => exact absurd HA.out (by simp [rundleref18_Empties.l1])
       | succ k2 =>
        have H := HA.out; clear HA; simp only [rundleref18_Empties.l1] at H; by_cases c8 : x7_2 > 0
        ·
         rw [if_pos c8] at H; have c8b0 : decide (0 < x7_2) = true := dT c8; clear c8; by_cases c9 : 0 ≤ x7_2
         ·
          rw [if_pos c9] at H; have c9b0 : decide (0 ≤ x7_2) = true := dT c9; clear c9; by_cases c10 : x7_2 < (x5_1.length : Int)
          ·
           rw [if_pos c10] at H; have c10b0 : decide (x7_2 < (x5_1.length : Int)) = true := dT c10; clear c10; obtain ⟨bq11, hbq11⟩ : ∃ b_ : Bool, b_ = (rdOf false x5_1 x7_2) := ⟨_, rfl⟩; replace H : (if bq11 = true then (rundleref18_Empties.l1 k2 l0 a1 x5_1 x6_1 (wrap64 (x7_2 - 1))) else (if 0 ≤ x6_1 then (if x6_1 < (l0.length : Int) then (if ((rd_T144 l0 x6_1).f0) ≤ a1 then (if ((rd_T144 l0 x6_1).f2) = 0 then (if x7_2 < (l0.length : Int) then (if x6_1 < (x5_1.length : Int) then (rundleref18_Empties.l0 k2 l0 a1 (x5_1.set (x6_1 : Int).toNat (decide (((rd_T144 l0 x7_2).f0) ≤ a1))) (wrap64 (x6_1 + 1))) else (none)) else (none)) else (if x6_1 < (x5_1.length : Int) then (rundleref18_Empties.l0 k2 l0 a1 (x5_1.set (x6_1 : Int).toNat false) (wrap64 (x6_1 + 1))) else (none))) else (if x6_1 < (x5_1.length : Int) then (rundleref18_Empties.l0 k2 l0 a1 (x5_1.set (x6_1 : Int).toNat false) (wrap64 (x6_1 + 1))) else (none))) else (none)) else (none))) = some r := by rw [← hbq11] at H; exact H
           have Nbq11 := K0 hbq11; clear hbq11; by_cases c12 : bq11 = true
           ·
            subst c12; have H1 : (rundleref18_Empties.l1 k2 l0 a1 x5_1 x6_1 (wrap64 (x7_2 - 1))) = some r := by rw [if_pos rfl] at H; exact H
            clear H; have H := H1; clear H1; have H' := K0 H; clear H; obtain ⟨Ao13, co13, eo13⟩ := Kd.R_slice HO_5.out; subst eo13; have p317 : 0 ≤ (x7_2 : Int) := oT (by first | (with_reducible assumption) | assumption); have q317 : x7_2 < (x5_1.length : Int) := oT (by first | (with_reducible assumption) | assumption); obtain ⟨ad317, e317, hx317_0⟩ := Kd.at_bool (Kd.R_reads' HO_5.out).2.2 x7_2 p317 q317; (try rw [← Nbq11.out] at hx317_0)
            cases e317; replace p317 := eq_true p317; replace q317 := eq_true q317; go_wp2
            go_roundg k2
            case measure => have := HK1.out; have := HK2.out; omega
            case rel => exact ⟨(wrap64 (x7_2 - 1)), (by first | rfl | (simp; done) | (simp [*]; done)), H', ⟨by have := HK1.out; have := HK2.out; omega⟩, ⟨by (with_reducible repeat (first | apply rA | apply rN | apply rD)); exact HO_5.out⟩, ⟨by repeat (first | (with_reducible first | exact HB.out | apply wA | apply wN | apply wD) | exact HB.out)⟩⟩
           replace c12 := Bool.eq_false_iff.mpr c12; subst c12; have H1 : (if 0 ≤ x6_1 then (if x6_1 < (l0.length : Int) then (if ((rd_T144 l0 x6_1).f0) ≤ a1 then (if ((rd_T144 l0 x6_1).f2) = 0 then (if x7_2 < (l0.length : Int) then (if x6_1 < (x5_1.length : Int) then (rundleref18_Empties.l0 k2 l0 a1 (x5_1.set (x6_1 : Int).toNat (decide (((rd_T144 l0 x7_2).f0) ≤ a1))) (wrap64 (x6_1 + 1))) else (none)) else (none)) else (if x6_1 < (x5_1.length : Int) then (rundleref18_Empties.l0 k2 l0 a1 (x5_1.set (x6_1 : Int).toNat false) (wrap64 (x6_1 + 1))) else (none))) else (if x6_1 < (x5_1.length : Int) then (rundleref18_Empties.l0 k2 l0 a1 (x5_1.set (x6_1 : Int).toNat false) (wrap64 (x6_1 + 1))) else (none))) else (none)) else (none)) = some r := by rw [if_neg (show ¬ (false = true) by decide)] at H; exact H
           clear H; have H := H1; clear H1; by_cases c14 : 0 ≤ x6_1
           ·
            rw [if_pos c14] at H; have c14b0 : decide (0 ≤ x6_1) = true := dT c14; clear c14; by_cases c15 : x6_1 < (l0.length : Int)
            ·
             rw [if_pos c15] at H; have c15b0 : decide (x6_1 < (l0.length : Int)) = true := dT c15; clear c15; by_cases c16 : ((rd_T144 l0 x6_1).f0) ≤ a1
             ·
              rw [if_pos c16] at H; have c16b0 : decide (((rd_T144 l0 x6_1).f0) ≤ a1) = true := dT c16; clear c16; by_cases c17 : ((rd_T144 l0 x6_1).f2) = 0
              ·
               rw [if_pos c17] at H; have c17b0 : (((rd_T144 l0 x6_1).f2) == 0) = true := beq_iff_eq.mpr c17; have c17b1 : (((rd_T144 l0 x6_1).f2) != 0) = false := bne_eq_false_iff_eq.mpr c17; clear c17; by_cases c18 : x7_2 < (l0.length : Int)
               ·
                rw [if_pos c18] at H; have c18b0 : decide (x7_2 < (l0.length : Int)) = true := dT c18; clear c18; by_cases c19 : x6_1 < (x5_1.length : Int)
                ·
                 rw [if_pos c19] at H; have c19b0 : decide (x6_1 < (x5_1.length : Int)) = true := dT c19; clear c19; obtain ⟨y321, hy321⟩ : ∃ y_ : List Bool, y_ = (x5_1.set (x6_1 : Int).toNat (decide (((rd_T144 l0 x7_2).f0) ≤ a1))) := ⟨_, rfl⟩; replace H : (rundleref18_Empties.l0 k2 l0 a1 y321 (wrap64 (x6_1 + 1))) = some r := by first | (rw [hy321]; with_reducible exact H) | (have H2_ := (Option.bind_some _ _).symm.trans H; rw [hy321]; with_reducible exact H2_) | (have H2_ := (Option.bind_some _ _).symm.trans H; with_reducible exact H2_) | with_reducible exact H | (rw [hy321]; exact H) | exact H
                 have Ny321 := K0 hy321; clear hy321; have H' := K0 H; clear H; obtain ⟨Ao21, co21, eo21⟩ := Kd.R_slice HO_5.out; subst eo21; have p317 : 0 ≤ (x7_2 : Int) := oT (by first | (with_reducible assumption) | assumption); have q317 : x7_2 < (x5_1.length : Int) := oT (by first | (with_reducible assumption) | assumption); obtain ⟨ad317, e317, hx317_0⟩ := Kd.at_bool (Kd.R_reads' HO_5.out).2.2 x7_2 p317 q317; (try rw [← Nbq11.out] at hx317_0)
                 cases e317; replace p317 := eq_true p317; replace q317 := eq_true q317; have p318 : 0 ≤ (x6_1 : Int) := oT (by first | (with_reducible assumption) | assumption); have q318 : x6_1 < (l0.length : Int) := oT (by first | (with_reducible assumption) | assumption); obtain ⟨ad318, e318, hx318_0, hx318_1, hx318_2⟩ := at_T144b HR0.out HB.out x6_1 p318 q318
                 cases e318; replace p318 := eq_true p318; replace q318 := eq_true q318; have p319 : 0 ≤ (x6_1 : Int) := oT (by first | (with_reducible assumption) | assumption); have q319 : x6_1 < (l0.length : Int) := oT (by first | (with_reducible assumption) | assumption); obtain ⟨ad319, e319, hx319_0, hx319_1, hx319_2⟩ := at_T144 HR0.out x6_1 p319 q319; obtain rfl : ad318 = ad319 := (by injection e319); replace hx319_0 := (HB.out.cell (bL w _ hx319_0)).trans hx319_0; replace hx319_1 := (HB.out.cell (bL w _ hx319_1)).trans hx319_1; replace hx319_2 := (HB.out.cell (bL w _ hx319_2)).trans hx319_2; replace p319 := eq_true p319; replace q319 := eq_true q319; have p320 : 0 ≤ (x7_2 : Int) := oT (by first | (with_reducible assumption) | assumption); have q320 : x7_2 < (l0.length : Int) := oT (by first | (with_reducible assumption) | assumption); obtain ⟨ad320, e320, hx320_0, hx320_1, hx320_2⟩ := at_T144 HR0.out x7_2 p320 q320; obtain rfl : ad318 = ad320 := (by injection e320); replace hx320_0 := (HB.out.cell (bL w _ hx320_0)).trans hx320_0; replace hx320_1 := (HB.out.cell (bL w _ hx320_1)).trans hx320_1; replace hx320_2 := (HB.out.cell (bL w _ hx320_2)).trans hx320_2; replace p320 := eq_true p320; replace q320 := eq_true q320; have p20 : 0 ≤ (x6_1 : Int) := oT (by first | (with_reducible assumption) | assumption); have q20 : (x6_1 : Int) < ((x5_1.length : Int) : Int) := oT (by first | (with_reducible assumption) | assumption); obtain ⟨go20, co20, eo20, gb20, gl20, cl20, HG20⟩ := Kd.R_form HO_5.out (by omega); (first | cases eo20 | (injection eo20 with ea_ en_ ec_; (first | subst ea_ | (injection ea_ with ea_; subst ea_)); subst ec_; clear en_))
                 have GB20 := K0 gb20; have GG20 := K0 HG20; clear gb20 gl20 HG20; (first | simp only [add_plain] at hx317_0 | skip)
                 obtain ⟨hx20_0, hf20_0⟩ := Kd.R_celln false HO_5.out (x6_1 : Int) p20 q20; replace p20 := eq_true p20; replace q20 := eq_true q20; have HP22 := Kd.R_putg HO_5.out (x6_1 : Int) (decide (((rd_T144 l0 x7_2).f0) ≤ a1)); go_wp2_with (first | ((with_reducible refine gate_store (t := 4) (p := 55) rfl ?_); refine store_event (t := 4) (p := 55) (v := ?vo_w23) (w1 := (wr.setCell ⟨go20, (x6_1 : Int).toNat, none⟩ (.bool (decide (((rd_T144 l0 x7_2).f0) ≤ a1))))) ?hg ?ho ?hn ?hr ?_; (case ho => rfl); (case hg => rfl); (case hn => rfl); (case hr => first | (go_simp; done) | (go_simp; rfl)); intro w23 hw; have hg : wr.grownBy w23 (some go20) := (by rw [hw]; exact HP22.2); have hp_ : Kd.R Kd.bool 4 w23 w.heap.size (fun _ => True) (.slice (some ⟨go20, 0, none⟩) x5_1.length co21) y321 := (by rw [hw, Ny321.out]; exact HP22.1); clear HP22; have n0_ := K0 (hp_); have n1_ := K0 ((by rw [hw]; exact wS (HB.out) GB20.out : Below w.heap.size w w23)); clear HO_5; clear HB; have HO_5 := n0_; have HB := n1_; clear n0_ n1_; clear hg hw hp_))
                 go_roundg k2
                 case measure => have := HK1.out; have := HK2.out; omega
                 case rel => exact ⟨(y321), (wrap64 (x6_1 + 1)), (by first | rfl | (simp; done) | (simp [*]; done)), H', ⟨by have := HK1.out; have := HK2.out; omega⟩, ⟨by (with_reducible repeat (first | apply rA | apply rN | apply rD)); exact HO_5.out⟩, ⟨by repeat (first | (with_reducible first | exact HB.out | apply wA | apply wN | apply wD) | exact HB.out)⟩⟩
                rw [if_neg c19] at H; exact absurd H (by simp)
               rw [if_neg c18] at H; exact absurd H (by simp)
              rw [if_neg c17] at H; have c17b0 : (((rd_T144 l0 x6_1).f2) == 0) = false := beq_eq_false_iff_ne.mpr c17; have c17b1 : (((rd_T144 l0 x6_1).f2) != 0) = true := bne_iff_ne.mpr c17; by_cases c24 : x6_1 < (x5_1.length : Int)
              ·
               rw [if_pos c24] at H; have c24b0 : decide (x6_1 < (x5_1.length : Int)) = true := dT c24; clear c24; obtain ⟨y322, hy322⟩ : ∃ y_ : List Bool, y_ = (x5_1.set (x6_1 : Int).toNat false) := ⟨_, rfl⟩; replace H : (rundleref18_Empties.l0 k2 l0 a1 y322 (wrap64 (x6_1 + 1))) = some r := by first | (rw [hy322]; with_reducible exact H) | (have H2_ := (Option.bind_some _ _).symm.trans H; rw [hy322]; with_reducible exact H2_) | (have H2_ := (Option.bind_some _ _).symm.trans H; with_reducible exact H2_) | with_reducible exact H | (rw [hy322]; exact H) | exact H
               have Ny322 := K0 hy322; clear hy322; have H' := K0 H; clear H; obtain ⟨Ao26, co26, eo26⟩ := Kd.R_slice HO_5.out; subst eo26; have p317 : 0 ≤ (x7_2 : Int) := oT (by first | (with_reducible assumption) | assumption); have q317 : x7_2 < (x5_1.length : Int) := oT (by first | (with_reducible assumption) | assumption); obtain ⟨ad317, e317, hx317_0⟩ := Kd.at_bool (Kd.R_reads' HO_5.out).2.2 x7_2 p317 q317; (try rw [← Nbq11.out] at hx317_0)
               cases e317; replace p317 := eq_true p317; replace q317 := eq_true q317; have p318 : 0 ≤ (x6_1 : Int) := oT (by first | (with_reducible assumption) | assumption); have q318 : x6_1 < (l0.length : Int) := oT (by first | (with_reducible assumption) | assumption); obtain ⟨ad318, e318, hx318_0, hx318_1, hx318_2⟩ := at_T144b HR0.out HB.out x6_1 p318 q318
               cases e318; replace p318 := eq_true p318; replace q318 := eq_true q318; have p319 : 0 ≤ (x6_1 : Int) := oT (by first | (with_reducible assumption) | assumption); have q319 : x6_1 < (l0.length : Int) := oT (by first | (with_reducible assumption) | assumption); obtain ⟨ad319, e319, hx319_0, hx319_1, hx319_2⟩ := at_T144 HR0.out x6_1 p319 q319; obtain rfl : ad318 = ad319 := (by injection e319); replace hx319_0 := (HB.out.cell (bL w _ hx319_0)).trans hx319_0; replace hx319_1 := (HB.out.cell (bL w _ hx319_1)).trans hx319_1; replace hx319_2 := (HB.out.cell (bL w _ hx319_2)).trans hx319_2; replace p319 := eq_true p319; replace q319 := eq_true q319; have p25 : 0 ≤ (x6_1 : Int) := oT (by first | (with_reducible assumption) | assumption); have q25 : (x6_1 : Int) < ((x5_1.length : Int) : Int) := oT (by first | (with_reducible assumption) | assumption); obtain ⟨go25, co25, eo25, gb25, gl25, cl25, HG25⟩ := Kd.R_form HO_5.out (by omega); (first | cases eo25 | (injection eo25 with ea_ en_ ec_; (first | subst ea_ | (injection ea_ with ea_; subst ea_)); subst ec_; clear en_))
               have GB25 := K0 gb25; have GG25 := K0 HG25; clear gb25 gl25 HG25; (first | simp only [add_plain] at hx317_0 | skip)
               obtain ⟨hx25_0, hf25_0⟩ := Kd.R_celln false HO_5.out (x6_1 : Int) p25 q25; replace p25 := eq_true p25; replace q25 := eq_true q25; have HP27 := Kd.R_putg HO_5.out (x6_1 : Int) false; go_wp2_with (first | ((with_reducible refine gate_store (t := 4) (p := 55) rfl ?_); refine store_event (t := 4) (p := 55) (v := ?vo_w28) (w1 := (wr.setCell ⟨go25, (x6_1 : Int).toNat, none⟩ (.bool false))) ?hg ?ho ?hn ?hr ?_; (case ho => rfl); (case hg => rfl); (case hn => rfl); (case hr => first | (go_simp; done) | (go_simp; rfl)); intro w28 hw; have hg : wr.grownBy w28 (some go25) := (by rw [hw]; exact HP27.2); have hp_ : Kd.R Kd.bool 4 w28 w.heap.size (fun _ => True) (.slice (some ⟨go25, 0, none⟩) x5_1.length co26) y322 := (by rw [hw, Ny322.out]; exact HP27.1); clear HP27; have n0_ := K0 (hp_); have n1_ := K0 ((by rw [hw]; exact wS (HB.out) GB25.out : Below w.heap.size w w28)); clear HO_5; clear HB; have HO_5 := n0_; have HB := n1_; clear n0_ n1_; clear hg hw hp_))
               go_roundg k2
               case measure => have := HK1.out; have := HK2.out; omega
               case rel => exact ⟨(y322), (wrap64 (x6_1 + 1)), (by first | rfl | (simp; done) | (simp [*]; done)), H', ⟨by have := HK1.out; have := HK2.out; omega⟩, ⟨by (with_reducible repeat (first | apply rA | apply rN | apply rD)); exact HO_5.out⟩, ⟨by repeat (first | (with_reducible first | exact HB.out | apply wA | apply wN | apply wD) | exact HB.out)⟩⟩
              rw [if_neg c24] at H; exact absurd H (by simp)
             rw [if_neg c16] at H; have c16b0 : decide (((rd_T144 l0 x6_1).f0) ≤ a1) = false := dF c16; clear c16; by_cases c29 : x6_1 < (x5_1.length : Int)
             ·
              rw [if_pos c29] at H; have c29b0 : decide (x6_1 < (x5_1.length : Int)) = true := dT c29; clear c29; obtain ⟨y323, hy323⟩ : ∃ y_ : List Bool, y_ = (x5_1.set (x6_1 : Int).toNat false) := ⟨_, rfl⟩; replace H : (rundleref18_Empties.l0 k2 l0 a1 y323 (wrap64 (x6_1 + 1))) = some r := by first | (rw [hy323]; with_reducible exact H) | (have H2_ := (Option.bind_some _ _).symm.trans H; rw [hy323]; with_reducible exact H2_) | (have H2_ := (Option.bind_some _ _).symm.trans H; with_reducible exact H2_) | with_reducible exact H | (rw [hy323]; exact H) | exact H
              have Ny323 := K0 hy323; clear hy323; have H' := K0 H; clear H; obtain ⟨Ao31, co31, eo31⟩ := Kd.R_slice HO_5.out; subst eo31; have p317 : 0 ≤ (x7_2 : Int) := oT (by first | (with_reducible assumption) | assumption); have q317 : x7_2 < (x5_1.length : Int) := oT (by first | (with_reducible assumption) | assumption); obtain ⟨ad317, e317, hx317_0⟩ := Kd.at_bool (Kd.R_reads' HO_5.out).2.2 x7_2 p317 q317; (try rw [← Nbq11.out] at hx317_0)
              cases e317; replace p317 := eq_true p317; replace q317 := eq_true q317; have p318 : 0 ≤ (x6_1 : Int) := oT (by first | (with_reducible assumption) | assumption); have q318 : x6_1 < (l0.length : Int) := oT (by first | (with_reducible assumption) | assumption); obtain ⟨ad318, e318, hx318_0, hx318_1, hx318_2⟩ := at_T144b HR0.out HB.out x6_1 p318 q318
              cases e318; replace p318 := eq_true p318; replace q318 := eq_true q318; have p30 : 0 ≤ (x6_1 : Int) := oT (by first | (with_reducible assumption) | assumption); have q30 : (x6_1 : Int) < ((x5_1.length : Int) : Int) := oT (by first | (with_reducible assumption) | assumption); obtain ⟨go30, co30, eo30, gb30, gl30, cl30, HG30⟩ := Kd.R_form HO_5.out (by omega); (first | cases eo30 | (injection eo30 with ea_ en_ ec_; (first | subst ea_ | (injection ea_ with ea_; subst ea_)); subst ec_; clear en_))
              have GB30 := K0 gb30; have GG30 := K0 HG30; clear gb30 gl30 HG30; (first | simp only [add_plain] at hx317_0 | skip)
              obtain ⟨hx30_0, hf30_0⟩ := Kd.R_celln false HO_5.out (x6_1 : Int) p30 q30; replace p30 := eq_true p30; replace q30 := eq_true q30; have HP32 := Kd.R_putg HO_5.out (x6_1 : Int) false; go_wp2_with (first | ((with_reducible refine gate_store (t := 4) (p := 55) rfl ?_); refine store_event (t := 4) (p := 55) (v := ?vo_w33) (w1 := (wr.setCell ⟨go30, (x6_1 : Int).toNat, none⟩ (.bool false))) ?hg ?ho ?hn ?hr ?_; (case ho => rfl); (case hg => rfl); (case hn => rfl); (case hr => first | (go_simp; done) | (go_simp; rfl)); intro w33 hw; have hg : wr.grownBy w33 (some go30) := (by rw [hw]; exact HP32.2); have hp_ : Kd.R Kd.bool 4 w33 w.heap.size (fun _ => True) (.slice (some ⟨go30, 0, none⟩) x5_1.length co31) y323 := (by rw [hw, Ny323.out]; exact HP32.1); clear HP32; have n0_ := K0 (hp_); have n1_ := K0 ((by rw [hw]; exact wS (HB.out) GB30.out : Below w.heap.size w w33)); clear HO_5; clear HB; have HO_5 := n0_; have HB := n1_; clear n0_ n1_; clear hg hw hp_))
              go_roundg k2
              case measure => have := HK1.out; have := HK2.out; omega
              case rel => exact ⟨(y323), (wrap64 (x6_1 + 1)), (by first | rfl | (simp; done) | (simp [*]; done)), H', ⟨by have := HK1.out; have := HK2.out; omega⟩, ⟨by (with_reducible repeat (first | apply rA | apply rN | apply rD)); exact HO_5.out⟩, ⟨by repeat (first | (with_reducible first | exact HB.out | apply wA | apply wN | apply wD) | exact HB.out)⟩⟩
             rw [if_neg c29] at H; exact absurd H (by simp)
            rw [if_neg c15] at H; exact absurd H (by simp)
           rw [if_neg c14] at H; exact absurd H (by simp)
          rw [if_neg c10] at H; exact absurd H (by simp)
         rw [if_neg c9] at H; exact absurd H (by simp)
        rw [if_neg c8] at H; have c8b0 : decide (0 < x7_2) = false := dF c8; clear c8; by_cases c34 : 0 ≤ x6_1
        ·
         rw [if_pos c34] at H; have c34b0 : decide (0 ≤ x6_1) = true := dT c34; clear c34; by_cases c35 : x6_1 < (l0.length : Int)
         ·
          rw [if_pos c35] at H; have c35b0 : decide (x6_1 < (l0.length : Int)) = true := dT c35; clear c35; by_cases c36 : ((rd_T144 l0 x6_1).f0) ≤ a1
          ·
           rw [if_pos c36] at H; have c36b0 : decide (((rd_T144 l0 x6_1).f0) ≤ a1) = true := dT c36; clear c36; by_cases c37 : ((rd_T144 l0 x6_1).f2) = 0
           ·
            rw [if_pos c37] at H; have c37b0 : (((rd_T144 l0 x6_1).f2) == 0) = true := beq_iff_eq.mpr c37; have c37b1 : (((rd_T144 l0 x6_1).f2) != 0) = false := bne_eq_false_iff_eq.mpr c37; clear c37; by_cases c38 : 0 ≤ x7_2
            ·
             rw [if_pos c38] at H; have c38b0 : decide (0 ≤ x7_2) = true := dT c38; clear c38; by_cases c39 : x7_2 < (l0.length : Int)
             ·
              rw [if_pos c39] at H; have c39b0 : decide (x7_2 < (l0.length : Int)) = true := dT c39; clear c39; by_cases c40 : x6_1 < (x5_1.length : Int)
              ·
               rw [if_pos c40] at H; have c40b0 : decide (x6_1 < (x5_1.length : Int)) = true := dT c40; clear c40; obtain ⟨y327, hy327⟩ : ∃ y_ : List Bool, y_ = (x5_1.set (x6_1 : Int).toNat (decide (((rd_T144 l0 x7_2).f0) ≤ a1))) := ⟨_, rfl⟩; replace H : (rundleref18_Empties.l0 k2 l0 a1 y327 (wrap64 (x6_1 + 1))) = some r := by first | (rw [hy327]; with_reducible exact H) | (have H2_ := (Option.bind_some _ _).symm.trans H; rw [hy327]; with_reducible exact H2_) | (have H2_ := (Option.bind_some _ _).symm.trans H; with_reducible exact H2_) | with_reducible exact H | (rw [hy327]; exact H) | exact H
               have Ny327 := K0 hy327; clear hy327; have H' := K0 H; clear H; have p324 : 0 ≤ (x6_1 : Int) := oT (by first | (with_reducible assumption) | assumption); have q324 : x6_1 < (l0.length : Int) := oT (by first | (with_reducible assumption) | assumption); obtain ⟨ad324, e324, hx324_0, hx324_1, hx324_2⟩ := at_T144b HR0.out HB.out x6_1 p324 q324
               cases e324; replace p324 := eq_true p324; replace q324 := eq_true q324; have p325 : 0 ≤ (x6_1 : Int) := oT (by first | (with_reducible assumption) | assumption); have q325 : x6_1 < (l0.length : Int) := oT (by first | (with_reducible assumption) | assumption); obtain ⟨ad325, e325, hx325_0, hx325_1, hx325_2⟩ := at_T144 HR0.out x6_1 p325 q325; obtain rfl : ad324 = ad325 := (by injection e325); replace hx325_0 := (HB.out.cell (bL w _ hx325_0)).trans hx325_0; replace hx325_1 := (HB.out.cell (bL w _ hx325_1)).trans hx325_1; replace hx325_2 := (HB.out.cell (bL w _ hx325_2)).trans hx325_2; replace p325 := eq_true p325; replace q325 := eq_true q325; have p326 : 0 ≤ (x7_2 : Int) := oT (by first | (with_reducible assumption) | assumption); have q326 : x7_2 < (l0.length : Int) := oT (by first | (with_reducible assumption) | assumption); obtain ⟨ad326, e326, hx326_0, hx326_1, hx326_2⟩ := at_T144 HR0.out x7_2 p326 q326; obtain rfl : ad324 = ad326 := (by injection e326); replace hx326_0 := (HB.out.cell (bL w _ hx326_0)).trans hx326_0; replace hx326_1 := (HB.out.cell (bL w _ hx326_1)).trans hx326_1; replace hx326_2 := (HB.out.cell (bL w _ hx326_2)).trans hx326_2; replace p326 := eq_true p326; replace q326 := eq_true q326; have p41 : 0 ≤ (x6_1 : Int) := oT (by first | (with_reducible assumption) | assumption); have q41 : (x6_1 : Int) < ((x5_1.length : Int) : Int) := oT (by first | (with_reducible assumption) | assumption); obtain ⟨go41, co41, eo41, gb41, gl41, cl41, HG41⟩ := Kd.R_form HO_5.out (by omega); (first | cases eo41 | (injection eo41 with ea_ en_ ec_; (first | subst ea_ | (injection ea_ with ea_; subst ea_)); subst ec_; clear en_))
               have GB41 := K0 gb41; have GG41 := K0 HG41; clear gb41 gl41 HG41; obtain ⟨hx41_0, hf41_0⟩ := Kd.R_celln false HO_5.out (x6_1 : Int) p41 q41; replace p41 := eq_true p41; replace q41 := eq_true q41; have HP42 := Kd.R_putg HO_5.out (x6_1 : Int) (decide (((rd_T144 l0 x7_2).f0) ≤ a1)); go_wp2_with (first | ((with_reducible refine gate_store (t := 4) (p := 55) rfl ?_); refine store_event (t := 4) (p := 55) (v := ?vo_w43) (w1 := (wr.setCell ⟨go41, (x6_1 : Int).toNat, none⟩ (.bool (decide (((rd_T144 l0 x7_2).f0) ≤ a1))))) ?hg ?ho ?hn ?hr ?_; (case ho => rfl); (case hg => rfl); (case hn => rfl); (case hr => first | (go_simp; done) | (go_simp; rfl)); intro w43 hw; have hg : wr.grownBy w43 (some go41) := (by rw [hw]; exact HP42.2); have hp_ : Kd.R Kd.bool 4 w43 w.heap.size (fun _ => True) (.slice (some ⟨go41, 0, none⟩) x5_1.length co41) y327 := (by rw [hw, Ny327.out]; exact HP42.1); clear HP42; have n0_ := K0 (hp_); have n1_ := K0 ((by rw [hw]; exact wS (HB.out) GB41.out : Below w.heap.size w w43)); clear HO_5; clear HB; have HO_5 := n0_; have HB := n1_; clear n0_ n1_; clear hg hw hp_))
               go_roundg k2
               case measure => have := HK1.out; have := HK2.out; omega
               case rel => exact ⟨(y327), (wrap64 (x6_1 + 1)), (by first | rfl | (simp; done) | (simp [*]; done)), H', ⟨by have := HK1.out; have := HK2.out; omega⟩, ⟨by (with_reducible repeat (first | apply rA | apply rN | apply rD)); exact HO_5.out⟩, ⟨by repeat (first | (with_reducible first | exact HB.out | apply wA | apply wN | apply wD) | exact HB.out)⟩⟩
              rw [if_neg c40] at H; exact absurd H (by simp)
             rw [if_neg c39] at H; exact absurd H (by simp)
            rw [if_neg c38] at H; exact absurd H (by simp)
           rw [if_neg c37] at H; have c37b0 : (((rd_T144 l0 x6_1).f2) == 0) = false := beq_eq_false_iff_ne.mpr c37; have c37b1 : (((rd_T144 l0 x6_1).f2) != 0) = true := bne_iff_ne.mpr c37; by_cases c44 : x6_1 < (x5_1.length : Int)
           ·
            rw [if_pos c44] at H; have c44b0 : decide (x6_1 < (x5_1.length : Int)) = true := dT c44; clear c44; obtain ⟨y328, hy328⟩ : ∃ y_ : List Bool, y_ = (x5_1.set (x6_1 : Int).toNat false) := ⟨_, rfl⟩; replace H : (rundleref18_Empties.l0 k2 l0 a1 y328 (wrap64 (x6_1 + 1))) = some r := by first | (rw [hy328]; with_reducible exact H) | (have H2_ := (Option.bind_some _ _).symm.trans H; rw [hy328]; with_reducible exact H2_) | (have H2_ := (Option.bind_some _ _).symm.trans H; with_reducible exact H2_) | with_reducible exact H | (rw [hy328]; exact H) | exact H
            have Ny328 := K0 hy328; clear hy328; have H' := K0 H; clear H; have p324 : 0 ≤ (x6_1 : Int) := oT (by first | (with_reducible assumption) | assumption); have q324 : x6_1 < (l0.length : Int) := oT (by first | (with_reducible assumption) | assumption); obtain ⟨ad324, e324, hx324_0, hx324_1, hx324_2⟩ := at_T144b HR0.out HB.out x6_1 p324 q324
            cases e324; replace p324 := eq_true p324; replace q324 := eq_true q324; have p325 : 0 ≤ (x6_1 : Int) := oT (by first | (with_reducible assumption) | assumption); have q325 : x6_1 < (l0.length : Int) := oT (by first | (with_reducible assumption) | assumption); obtain ⟨ad325, e325, hx325_0, hx325_1, hx325_2⟩ := at_T144 HR0.out x6_1 p325 q325; obtain rfl : ad324 = ad325 := (by injection e325); replace hx325_0 := (HB.out.cell (bL w _ hx325_0)).trans hx325_0; replace hx325_1 := (HB.out.cell (bL w _ hx325_1)).trans hx325_1; replace hx325_2 := (HB.out.cell (bL w _ hx325_2)).trans hx325_2; replace p325 := eq_true p325; replace q325 := eq_true q325; have p45 : 0 ≤ (x6_1 : Int) := oT (by first | (with_reducible assumption) | assumption); have q45 : (x6_1 : Int) < ((x5_1.length : Int) : Int) := oT (by first | (with_reducible assumption) | assumption); obtain ⟨go45, co45, eo45, gb45, gl45, cl45, HG45⟩ := Kd.R_form HO_5.out (by omega); (first | cases eo45 | (injection eo45 with ea_ en_ ec_; (first | subst ea_ | (injection ea_ with ea_; subst ea_)); subst ec_; clear en_))
            have GB45 := K0 gb45; have GG45 := K0 HG45; clear gb45 gl45 HG45; obtain ⟨hx45_0, hf45_0⟩ := Kd.R_celln false HO_5.out (x6_1 : Int) p45 q45; replace p45 := eq_true p45; replace q45 := eq_true q45; have HP46 := Kd.R_putg HO_5.out (x6_1 : Int) false; go_wp2_with (first | ((with_reducible refine gate_store (t := 4) (p := 55) rfl ?_); refine store_event (t := 4) (p := 55) (v := ?vo_w47) (w1 := (wr.setCell ⟨go45, (x6_1 : Int).toNat, none⟩ (.bool false))) ?hg ?ho ?hn ?hr ?_; (case ho => rfl); (case hg => rfl); (case hn => rfl); (case hr => first | (go_simp; done) | (go_simp; rfl)); intro w47 hw; have hg : wr.grownBy w47 (some go45) := (by rw [hw]; exact HP46.2); have hp_ : Kd.R Kd.bool 4 w47 w.heap.size (fun _ => True) (.slice (some ⟨go45, 0, none⟩) x5_1.length co45) y328 := (by rw [hw, Ny328.out]; exact HP46.1); clear HP46; have n0_ := K0 (hp_); have n1_ := K0 ((by rw [hw]; exact wS (HB.out) GB45.out : Below w.heap.size w w47)); clear HO_5; clear HB; have HO_5 := n0_; have HB := n1_; clear n0_ n1_; clear hg hw hp_))
            go_roundg k2
            case measure => have := HK1.out; have := HK2.out; omega
            case rel => exact ⟨(y328), (wrap64 (x6_1 + 1)), (by first | rfl | (simp; done) | (simp [*]; done)), H', ⟨by have := HK1.out; have := HK2.out; omega⟩, ⟨by (with_reducible repeat (first | apply rA | apply rN | apply rD)); exact HO_5.out⟩, ⟨by repeat (first | (with_reducible first | exact HB.out | apply wA | apply wN | apply wD) | exact HB.out)⟩⟩
           rw [if_neg c44] at H; exact absurd H (by simp)
          rw [if_neg c36] at H; have c36b0 : decide (((rd_T144 l0 x6_1).f0) ≤ a1) = false := dF c36; clear c36; by_cases c48 : x6_1 < (x5_1.length : Int)
          ·
           rw [if_pos c48] at H; have c48b0 : decide (x6_1 < (x5_1.length : Int)) = true := dT c48; clear c48; obtain ⟨y329, hy329⟩ : ∃ y_ : List Bool, y_ = (x5_1.set (x6_1 : Int).toNat false) := ⟨_, rfl⟩; replace H : (rundleref18_Empties.l0 k2 l0 a1 y329 (wrap64 (x6_1 + 1))) = some r := by first | (rw [hy329]; with_reducible exact H) | (have H2_ := (Option.bind_some _ _).symm.trans H; rw [hy329]; with_reducible exact H2_) | (have H2_ := (Option.bind_some _ _).symm.trans H; with_reducible exact H2_) | with_reducible exact H | (rw [hy329]; exact H) | exact H
           have Ny329 := K0 hy329; clear hy329; have H' := K0 H; clear H; have p324 : 0 ≤ (x6_1 : Int) := oT (by first | (with_reducible assumption) | assumption); have q324 : x6_1 < (l0.length : Int) := oT (by first | (with_reducible assumption) | assumption); obtain ⟨ad324, e324, hx324_0, hx324_1, hx324_2⟩ := at_T144b HR0.out HB.out x6_1 p324 q324
           cases e324; replace p324 := eq_true p324; replace q324 := eq_true q324; have p49 : 0 ≤ (x6_1 : Int) := oT (by first | (with_reducible assumption) | assumption); have q49 : (x6_1 : Int) < ((x5_1.length : Int) : Int) := oT (by first | (with_reducible assumption) | assumption); obtain ⟨go49, co49, eo49, gb49, gl49, cl49, HG49⟩ := Kd.R_form HO_5.out (by omega); (first | cases eo49 | (injection eo49 with ea_ en_ ec_; (first | subst ea_ | (injection ea_ with ea_; subst ea_)); subst ec_; clear en_))
           have GB49 := K0 gb49; have GG49 := K0 HG49; clear gb49 gl49 HG49; obtain ⟨hx49_0, hf49_0⟩ := Kd.R_celln false HO_5.out (x6_1 : Int) p49 q49; replace p49 := eq_true p49; replace q49 := eq_true q49; have HP50 := Kd.R_putg HO_5.out (x6_1 : Int) false; go_wp2_with (first | ((with_reducible refine gate_store (t := 4) (p := 55) rfl ?_); refine store_event (t := 4) (p := 55) (v := ?vo_w51) (w1 := (wr.setCell ⟨go49, (x6_1 : Int).toNat, none⟩ (.bool false))) ?hg ?ho ?hn ?hr ?_; (case ho => rfl); (case hg => rfl); (case hn => rfl); (case hr => first | (go_simp; done) | (go_simp; rfl)); intro w51 hw; have hg : wr.grownBy w51 (some go49) := (by rw [hw]; exact HP50.2); have hp_ : Kd.R Kd.bool 4 w51 w.heap.size (fun _ => True) (.slice (some ⟨go49, 0, none⟩) x5_1.length co49) y329 := (by rw [hw, Ny329.out]; exact HP50.1); clear HP50; have n0_ := K0 (hp_); have n1_ := K0 ((by rw [hw]; exact wS (HB.out) GB49.out : Below w.heap.size w w51)); clear HO_5; clear HB; have HO_5 := n0_; have HB := n1_; clear n0_ n1_; clear hg hw hp_))
           go_roundg k2
           case measure => have := HK1.out; have := HK2.out; omega
           case rel => exact ⟨(y329), (wrap64 (x6_1 + 1)), (by first | rfl | (simp; done) | (simp [*]; done)), H', ⟨by have := HK1.out; have := HK2.out; omega⟩, ⟨by (with_reducible repeat (first | apply rA | apply rN | apply rD)); exact HO_5.out⟩, ⟨by repeat (first | (with_reducible first | exact HB.out | apply wA | apply wN | apply wD) | exact HB.out)⟩⟩
          rw [if_neg c48] at H; exact absurd H (by simp)
         rw [if_neg c35] at H; exact absurd H (by simp)
        rw [if_neg c34] at H; exact absurd H (by simp)
     rw [if_neg c7] at H; have c7b0 : decide (x6_1 < (l0.length : Int)) = false := dF c7; clear c7; obtain rfl := Option.some.inj H; go_wp2
     go_ret; exact ⟨_, by first | rfl | (simp [errW_none, errW_some] <;> rfl) | (simp [*, errW_none, errW_some] <;> rfl), by (with_reducible repeat (first | apply rA | apply rN | apply rD)); exact HO_5.out, by repeat (first | (with_reducible first | exact HB.out | apply wA | apply wN | apply wD) | exact HB.out)⟩
  rw [if_neg c4] at H
  exact absurd H (by simp)
 rw [if_neg c3] at H
 exact absurd H (by simp)
end Go.Proofs.Ytoaacdjcjicemaa.PPlanEmpties
