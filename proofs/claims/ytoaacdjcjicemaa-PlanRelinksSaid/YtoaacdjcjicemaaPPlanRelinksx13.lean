-- written by a program of this session (the print, turned)
import Derived.Test.YtoaacdjcjicemaaPPlanRelinksx0
import Derived.Test.YtoaacdjcjicemaaPPlanRelinksx5
import Derived.Test.YtoaacdjcjicemaaWAl
namespace Go.Proofs.Ytoaacdjcjicemaa.PPlanRelinks
open Go.RowKit Go.Proofs.YtoaacdjcjicemaaW.PrintWords Go.Proofs.YtoaacdjcjicemaaW.PrintLast Go.Proofs.YtoaacdjcjicemaaW.PrintMore
attribute [local go_sem] cell_self cell_there leq_str geq_str gtr_str max2_str max2_int min2_int max_two min_two max_three min_three max_four min_four   -- for this text's walks alone
set_option linter.unusedVariables false
set_option linter.unusedSimpArgs false
abbrev q13_0 : Array Bool := #[false, false, false, false, false, false, false, false, false, false, false, false, false, false, false, false, false, false]
abbrev q13_1 : Array Bool := #[true, false, false, false, false, false, false, false, false, false, false, false, false, false, false, false, false, false]
abbrev q13_2 : Array Bool := #[true, true, false, false, false, false, false, false, false, false, false, false, false, false, false, false, false, false]
abbrev q13_3 : Array Bool := #[true, true, true, false, false, false, false, false, false, false, false, false, false, false, false, false, false, false]
abbrev q13_4 : Array Bool := #[true, true, true, true, false, false, false, false, false, false, false, false, false, false, false, false, false, false]
abbrev q13_5 : Array Bool := #[true, true, true, true, false, true, false, false, false, false, false, false, false, false, false, false, false, false]
abbrev q13_6 : Array Bool := #[true, true, true, true, false, true, true, false, false, false, false, false, false, false, false, false, false, false]
abbrev q13_7 : Array Bool := #[true, true, true, true, false, true, true, true, false, false, false, false, false, false, false, false, false, false]
abbrev q13_8 : Array Bool := #[true, true, true, true, false, true, true, true, true, false, false, false, false, false, false, false, false, false]
abbrev q13_9 : Array Bool := #[true, true, true, true, true, true, true, true, true, false, false, false, false, false, false, false, false, false]
abbrev q13_10 : Array Bool := #[true, true, true, true, true, true, true, true, true, true, false, false, false, false, false, false, false, false]
abbrev q13_11 : Array Bool := #[true, true, true, true, true, true, true, true, true, true, true, false, false, false, false, false, false, false]
abbrev q13_12 : Array Bool := #[true, true, true, true, true, true, true, true, true, true, true, true, false, false, false, false, false, false]
abbrev q13_13 : Array Bool := #[true, true, true, true, true, true, true, true, true, true, true, true, true, false, false, false, false, false]
abbrev q13_14 : Array Bool := #[true, true, true, true, true, true, true, true, true, true, true, true, true, true, false, false, false, false]
abbrev q13_15 : Array Bool := #[true, true, true, true, true, true, true, true, true, true, true, true, true, true, true, false, false, false]
abbrev q13_16 : Array Bool := #[true, true, true, true, true, true, true, true, true, true, true, true, true, true, true, true, false, false]
abbrev q13_17 : Array Bool := #[true, true, true, true, true, true, true, true, true, true, true, true, true, true, true, true, true, false]
abbrev q13_18 : Array Bool := #[true, true, true, true, true, true, true, true, true, true, true, true, true, true, true, true, true, true]
/-! ### rundlelaw18_towers: function 35 -/
def rundlelaw18_towers.l0 : Nat → List (S108) → List Int → List (S77) → Int → Option ((List (S77)))
 | 0, _, _, _, _ => none
 | k + 1, x0, x3, x4, x5 => if x5 < (x0.length : Int) then (if 0 ≤ x5 then (if x5 < (x3.length : Int) then (if (rd_T108 x0 x5).f5 = true then (if x4.length < 8796093022208 then (rundlelaw18_towers.l0 k x0 x3 (x4 ++ [(⟨rd x3 x5, decide (x5 > 0)⟩ : S77)]) (wrap64 (x5 + 1))) else (none)) else (if x4.length < 8796093022208 then (rundlelaw18_towers.l0 k x0 x3 (x4 ++ [(⟨rd x3 x5, false⟩ : S77)]) (wrap64 (x5 + 1))) else (none))) else (none)) else (none)) else (some x4)
def rundlelaw18_towers.f (k : Nat) (l0 : List (S108)) : Option ((List (S77))) := (rundlelaw18_heights.f k l0).bind fun t300 => (rundlelaw18_towers.l0 k l0 t300 ([] : List (S77)) 0)
def rundlelaw18_towers.T6 : Bool × List (List Nat × List Nat) := (true, [([], []), ([], []), ([], []), ([1, 2], [1, 2]), ([3], [3]), ([], []), ([], []), ([5, 6], [5, 6]), ([7], [7]), ([8], [8]), ([9], [9]), ([10], [10]), ([11, 10], [10, 11]), ([10, 12], [10, 12]), ([4, 13], [4, 13]), ([14], [14]), ([0, 15, 10], [0, 15]), ([16, 16, 0, 1, 2, 3, 4, 5, 6, 7, 8, 9, 10, 11, 12, 13, 14, 15, 16], [0, 16])])
def rundlelaw18_towers.B6 : List Nat := [0, 0, 0, 6, 14, 0, 0, 96, 224, 480, 992, 2016, 4064, 8160, 16382, 32766, 65535, 131071]
theorem rundlelaw18_towers.tab6 : rtab .any (opsOf Try.f35 6) = rundlelaw18_towers.T6 := by kernel_rfl
theorem rundlelaw18_towers.bits6 : waitsOk rundlelaw18_towers.T6.2 rundlelaw18_towers.B6 = true := by kernel_rfl
set_option maxHeartbeats 8000000 in
set_option maxRecDepth 100000 in
theorem rundlelaw18_towers.calls (k : Nat) (A0 : Option Addr) (c0 : Nat) (l0 : List (S108)) (r : List (S77)) (w : World) (hr0 : Kd.C k108 w A0 l0.length l0) (hc0 : l0.length ≤ c0) (h : rundlelaw18_towers.f k l0 = some r) :
  Calls Try.prog 35 #[.slice A0 l0.length c0] w fun e w' => ∃ v0_ : Value, e = .returned (v0_) ∧ Kd.R k77 77 w' w.heap.size (fun _ => True) v0_ r ∧ Below w.heap.size w w' := by
 have hu77 := Try.underlying77
 have HR0 := K0 hr0
 have HC0 := K0 hc0
 clear hr0 hc0
 have HB := K0 (Below.refl w.heap.size w)
 have H : ((rundlelaw18_heights.f k l0).bind fun t300 => (rundlelaw18_towers.l0 k l0 t300 ([] : List (S77)) 0)) = some r := h
 clear h
 replace H := Option.bind_eq_some_iff.mp H
 obtain ⟨t300, A20, H⟩ := H
 replace H : (rundlelaw18_towers.l0 k l0 t300 ([] : List (S77)) 0) = some r := H
 have A2 := K0 A20
 clear A20
 have H' := K0 H
 clear H
 go_enter Try.func35, Try.ntmps35
 go_wp2_with (first | ((with_reducible refine gate_callee (f := 68) rfl ?_); refine goesL_ (some 7) rfl rfl Try.func68 (by kernel_rfl) rfl #[.slice A0 l0.length c0] rfl (by (try simp only [List.map_toArray, List.map_cons, List.map_nil]); first | done | rfl | (simp only [lD, lT]; rfl)) ?_; (with_reducible refine (rundlelaw18_heights.calls k _ _ l0 t300 _ ?side1 ?side2 A2.out).mono ?_); (case side1 => repeat (first | exact HR0.out | (with_reducible refine Kd.C_alloc ?_ _) | (with_reducible refine Kd.C_drewN ?_ _) | (with_reducible refine Kd.C_drew ?_))); (case side2 => exact HC0.out); rintro e w3 ⟨v301, rfl, ho0, hb⟩; refine ⟨_, rfl, ?_⟩; have n0_ := K0 (Kd.R_lower ho0 (below_size (by repeat (first | (with_reducible first | exact HB.out | apply wA | apply wN | apply wD) | exact HB.out)))); have n1_ := K0 (below_step (by repeat (first | (with_reducible first | exact HB.out | apply wA | apply wN | apply wD) | exact HB.out)) hb); clear HB; have HO302 := n0_; have HB := n1_; clear n0_ n1_; (try clear hb); (try clear hb2); (try clear hk); (try clear hi); (try clear ho0)))
 go_loopg [4, 5] k (fun kq v4 v5 w' => ∃ (x4_1 : List (S77)) (x5_1 : Int), v5 = .int .i64 x5_1 ∧ Aside0 (rundlelaw18_towers.l0 kq l0 t300 x4_1 x5_1 = some r) ∧ Aside0 (kq ≤ k) ∧ Aside0 (Kd.R (Kd.int .i64) 3 w' w.heap.size (fun _ => True) v301 t300) ∧ Aside0 (Kd.R k77 77 w' w.heap.size (fun _ => True) v4 x4_1) ∧ Aside0 (Below w.heap.size w w'))
 case atStart => exact ⟨(([] : List (S77))), (0), (by first | rfl | (simp; done) | (simp [*]; done)), H', ⟨Nat.le_refl _⟩, ⟨by (with_reducible repeat (first | apply rA | apply rN | apply rD)); exact HO302.out⟩, ⟨by first | exact Kd.R_nil _ _ _ _ _ | exact Kd.N_nil _ _ _ _ _ | exact Kd.V_nil _ _ _ _ _ | exact Kd.Q_nil _ _ _ _ _ | exact Kd.S_nil _ _ _ _ _⟩, ⟨by repeat (first | (with_reducible first | exact HB.out | apply wA | apply wN | apply wD) | exact HB.out)⟩⟩
 case round =>
  clear H'
  try clear p2
  try clear c3
  obtain ⟨x4_1, x5_1, rfl, HA, HK1, HO_3, HO_4, HB⟩ := hrel
  cases gk with
  | zero => exact absurd HA.out (by simp [rundlelaw18_towers.l0])
  | succ k1 =>
   have H := HA.out; clear HA; simp only [rundlelaw18_towers.l0] at H; by_cases c4 : x5_1 < (l0.length : Int)
   ·
    rw [if_pos c4] at H; have c4b0 : decide (x5_1 < (l0.length : Int)) = true := dT c4; clear c4; by_cases c5 : 0 ≤ x5_1
    ·
     rw [if_pos c5] at H; have c5b0 : decide (0 ≤ x5_1) = true := dT c5; clear c5; by_cases c6 : x5_1 < (t300.length : Int)
     ·
      rw [if_pos c6] at H; have c6b0 : decide (x5_1 < (t300.length : Int)) = true := dT c6; clear c6; obtain ⟨bq7, hbq7⟩ : ∃ b_ : Bool, b_ = ((rd_T108 l0 x5_1).f5) := ⟨_, rfl⟩; replace H : (if bq7 = true then (if x4_1.length < 8796093022208 then (rundlelaw18_towers.l0 k1 l0 t300 (x4_1 ++ [(⟨rd t300 x5_1, decide (x5_1 > 0)⟩ : S77)]) (wrap64 (x5_1 + 1))) else (none)) else (if x4_1.length < 8796093022208 then (rundlelaw18_towers.l0 k1 l0 t300 (x4_1 ++ [(⟨rd t300 x5_1, false⟩ : S77)]) (wrap64 (x5_1 + 1))) else (none))) = some r := by rw [← hbq7] at H; exact H
      have Nbq7 := K0 hbq7; clear hbq7; by_cases c8 : bq7 = true
      ·
       subst c8; have H1 : (if x4_1.length < 8796093022208 then (rundlelaw18_towers.l0 k1 l0 t300 (x4_1 ++ [(⟨rd t300 x5_1, decide (x5_1 > 0)⟩ : S77)]) (wrap64 (x5_1 + 1))) else (none)) = some r := by rw [if_pos rfl] at H; exact H
       clear H; have H := H1; clear H1; by_cases c9 : x4_1.length < 8796093022208
       ·
        rw [if_pos c9] at H; have LMc9 := K0 c9; clear c9; obtain ⟨y305, hy305⟩ : ∃ y_ : List (S77), y_ = (x4_1 ++ [(⟨rd t300 x5_1, decide (x5_1 > 0)⟩ : S77)]) := ⟨_, rfl⟩; replace H : (rundlelaw18_towers.l0 k1 l0 t300 y305 (wrap64 (x5_1 + 1))) = some r := by first | (rw [hy305]; with_reducible exact H) | (have H2_ := (Option.bind_some _ _).symm.trans H; rw [hy305]; with_reducible exact H2_) | (have H2_ := (Option.bind_some _ _).symm.trans H; with_reducible exact H2_) | with_reducible exact H | (rw [hy305]; exact H) | exact H
        have Ny305 := K0 hy305; clear hy305; have H' := K0 H; clear H; try go_wp2
        have n0_ := K0 (rD HO_3.out); have n1_ := K0 (rD HO_4.out); have n2_ := K0 (wD HB.out); clear HO_3 HO_4 HB; have HO_3 := n0_; have HO_4 := n1_; have HB := n2_; clear n0_ n1_ n2_; obtain ⟨Ao11, co11, eo11⟩ := Kd.R_slice HO_3.out; (first | subst eo11 | (injection eo11 with f1_ f2_ f3_; have f4_ := f1_.symm; have f5_ := f3_.symm; clear f1_ f2_ f3_; subst f4_; subst f5_))
        have p303 : 0 ≤ (x5_1 : Int) := oT (by first | (with_reducible assumption) | assumption); have q303 : x5_1 < (t300.length : Int) := oT (by first | (with_reducible assumption) | assumption); obtain ⟨ad303, e303, hx303_0⟩ := Kd.at_int (Kd.R_reads' HO_3.out).2.2 x5_1 p303 q303
        cases e303; replace p303 := eq_true p303; replace q303 := eq_true q303; have p304 : 0 ≤ (x5_1 : Int) := oT (by first | (with_reducible assumption) | assumption); have q304 : x5_1 < (l0.length : Int) := oT (by first | (with_reducible assumption) | assumption); obtain ⟨ad304, e304, hx304_0, hx304_1, hx304_2, hx304_3, hx304_4, hx304_5⟩ := at_T108 HR0.out x5_1 p304 q304; have hw304_5 := hx304_5; have hw304_4 := hx304_4; have hw304_3 := hx304_3; have hw304_2 := hx304_2; have hw304_1 := hx304_1; have hw304_0 := hx304_0; (try rw [← Nbq7.out] at hx304_4)
        (try rw [← Nbq7.out] at hw304_4)
        (try rw [← Nbq7.out] at hx304_5)
        (try rw [← Nbq7.out] at hw304_5)
        cases e304; replace hx304_0 := (HB.out.cell (bL w _ hx304_0)).trans hx304_0; replace hx304_1 := (HB.out.cell (bL w _ hx304_1)).trans hx304_1; replace hx304_2 := (HB.out.cell (bL w _ hx304_2)).trans hx304_2; replace hx304_3 := (HB.out.cell (bL w _ hx304_3)).trans hx304_3; replace hx304_4 := (HB.out.cell (bL w _ hx304_4)).trans hx304_4; replace hx304_5 := (HB.out.cell (bL w _ hx304_5)).trans hx304_5; replace p304 := eq_true p304; replace q304 := eq_true q304; refine start_ (n := 18) (S := fun w' => w'.cell? (ad303.add (x5_1).toNat) = some (.int .i64 (rd t300 x5_1)) ∧ w'.cell? (ad304.add ((x5_1).toNat * 6)) = some (.int .u8 ((rd_T108 l0 x5_1).f0)) ∧ w'.cell? ⟨(ad304.add ((x5_1).toNat * 6)).block, (ad304.add ((x5_1).toNat * 6)).off + 1, none⟩ = some (.int .u8 ((rd_T108 l0 x5_1).f1)) ∧ w'.cell? ⟨(ad304.add ((x5_1).toNat * 6)).block, (ad304.add ((x5_1).toNat * 6)).off + 2, none⟩ = some (.int .u8 ((rd_T108 l0 x5_1).f2)) ∧ w'.cell? ⟨(ad304.add ((x5_1).toNat * 6)).block, (ad304.add ((x5_1).toNat * 6)).off + 3, none⟩ = some (.int .u8 ((rd_T108 l0 x5_1).f3)) ∧ w'.cell? ⟨(ad304.add ((x5_1).toNat * 6)).block, (ad304.add ((x5_1).toNat * 6)).off + 4, none⟩ = some (.bool ((rd_T108 l0 x5_1).f4)) ∧ w'.cell? ⟨(ad304.add ((x5_1).toNat * 6)).block, (ad304.add ((x5_1).toNat * 6)).off + 5, none⟩ = some (.bool true)) (ds := [15, 16]) q13_0 (by kernel_rfl) rfl rfl ⟨hx303_0, ((HB.out.cell (bL w _ hw304_0)).trans hw304_0), ((HB.out.cell (bL w _ hw304_1)).trans hw304_1), ((HB.out.cell (bL w _ hw304_2)).trans hw304_2), ((HB.out.cell (bL w _ hw304_3)).trans hw304_3), ((HB.out.cell (bL w _ hw304_4)).trans hw304_4), ((HB.out.cell (bL w _ hw304_5)).trans hw304_5)⟩ (fun hHeld => ?_); refine with_tabW rundlelaw18_towers.tab6 rundlelaw18_towers.bits6 (fun HT_ HW_ => ?_)
        generalize wr.drew = w10 at HO_3 HO_4 HB hx303_0 hx304_0 hx304_1 hx304_2 hx304_3 hx304_4 hx304_5 hHeld ⊢; refine pure_ (i := 0) (N := some 14) (v := ?_) (a' := ?_) q13_1 rfl rfl (any_of HT_.out (by kernel_rfl)) (fun _ _ _ h => h) (Or.inl ⟨by rfl, ?_⟩) ?_ ?_; rotate_left
        · intro w'; go_simp; with_reducible rfl
        rotate_left
        · simp only [Act.put, s1, s2, s3, i64_w, i32_w]; rfl
        refine pure_ (i := 1) (N := some 15) (v := ?_) (a' := ?_) q13_2 rfl rfl (any_of HT_.out (by kernel_rfl)) (fun _ _ _ h => h) (Or.inl ⟨by rfl, ?_⟩) ?_ ?_; rotate_left
        · intro w'; go_simp; with_reducible rfl
        rotate_left
        · simp only [Act.put, s1, s2, s3, i64_w, i32_w]; rfl
        refine pure_ (i := 2) (N := some 16) (v := ?_) (a' := ?_) q13_3 rfl rfl (any_of HT_.out (by kernel_rfl)) (fun _ _ _ h => h) (Or.inl ⟨by rfl, ?_⟩) ?_ ?_; rotate_left
        · intro w'; go_simp; with_reducible rfl
        rotate_left
        · simp only [Act.put, s1, s2, s3, i64_w, i32_w]; rfl
        refine pure_ (i := 3) (N := some 17) (v := ?_) (a' := ?_) q13_4 rfl rfl (any_of HT_.out (by kernel_rfl)) (fun _ _ _ h => h) (Or.inl ⟨by rfl, ?_⟩) ?_ ?_; rotate_left
        · intro w'; go_simp; with_reducible rfl
        rotate_left
        · simp only [Act.put, s1, s2, s3, i64_w, i32_w]; rfl
        refine pure_ (i := 5) (N := some 19) (v := ?_) (a' := ?_) q13_5 rfl rfl (any_of HT_.out (by kernel_rfl)) (fun _ _ _ h => h) (Or.inl ⟨by rfl, ?_⟩) ?_ ?_; rotate_left
        · intro w'; go_simp; with_reducible rfl
        rotate_left
        · simp only [Act.put, s1, s2, s3, i64_w, i32_w]; rfl
        refine pure_ (i := 6) (N := some 20) (v := ?_) (a' := ?_) q13_6 rfl rfl (any_of HT_.out (by kernel_rfl)) (fun _ _ _ h => h) (Or.inl ⟨by rfl, ?_⟩) ?_ ?_; rotate_left
        · intro w'; go_simp; with_reducible rfl
        rotate_left
        · simp only [Act.put, s1, s2, s3, i64_w, i32_w]; rfl
        refine pure_ (i := 7) (N := some 21) (v := ?_) (a' := ?_) q13_7 rfl rfl (any_of HT_.out (by kernel_rfl)) (fun _ _ _ h => h) (Or.inl ⟨by rfl, ?_⟩) ?_ ?_; rotate_left
        · intro w'; go_simp; with_reducible rfl
        rotate_left
        · simp only [Act.put, s1, s2, s3, i64_w, i32_w]; rfl
        refine pure_ (i := 8) (N := some 22) (v := ?_) (a' := ?_) q13_8 rfl rfl (any_of HT_.out (by kernel_rfl)) (fun _ _ _ h => h) (Or.inl ⟨by rfl, ?_⟩) ?_ ?_; rotate_left
        · intro w'; go_simp; with_reducible rfl
        rotate_left
        · simp only [Act.put, s1, s2, s3, i64_w, i32_w]; rfl
        refine take_ (i := 4) (N := some 18) (v := ?_) (a' := ?_) q13_9 rfl rfl (take_ofW HT_.out HW_.out (by kernel_rfl)) (fun _ _ _ h => h) (Or.inl ⟨by rfl, ?_⟩) hHeld ?_ ?_; rotate_left
        · rintro w' ⟨s0, s1, s2, s3, s4, s5, s6⟩; go_simp; with_reducible rfl
        rotate_left
        · simp only [Act.put, s1, s2, s3, i64_w, i32_w]; rfl
        refine take_ (i := 9) (N := some 23) (v := ?_) (a' := ?_) q13_10 rfl rfl (take_ofW HT_.out HW_.out (by kernel_rfl)) (fun _ _ _ h => h) (Or.inl ⟨by rfl, ?_⟩) hHeld ?_ ?_; rotate_left
        · rintro w' ⟨s0, s1, s2, s3, s4, s5, s6⟩; go_simp; with_reducible rfl
        rotate_left
        · simp only [Act.put, s1, s2, s3, i64_w, i32_w]; rfl
        refine pure_ (i := 10) (N := some 24) (v := ?_) (a' := ?_) q13_11 rfl rfl (any_of HT_.out (by kernel_rfl)) (fun _ _ _ h => h) (Or.inl ⟨by rfl, ?_⟩) ?_ ?_; rotate_left
        · intro w'; go_simp; with_reducible rfl
        rotate_left
        · simp only [Act.put, s1, s2, s3, i64_w, i32_w]; rfl
        refine pure_ (i := 11) (N := some 25) (v := ?_) (a' := ?_) q13_12 rfl rfl (any_of HT_.out (by kernel_rfl)) (fun _ _ _ h => h) (Or.inl ⟨by rfl, ?_⟩) ?_ ?_; rotate_left
        · intro w'; go_simp; with_reducible rfl
        rotate_left
        · simp only [Act.put, s1, s2, s3, i64_w, i32_w]; rfl
        refine pure_ (i := 12) (N := some 26) (v := ?_) (a' := ?_) q13_13 rfl rfl (any_of HT_.out (by kernel_rfl)) (fun _ _ _ h => h) (Or.inl ⟨by rfl, ?_⟩) ?_ ?_; rotate_left
        · intro w'; go_simp; with_reducible rfl
        rotate_left
        · simp only [Act.put, s1, s2, s3, i64_w, i32_w]; rfl
        refine pure_ (i := 13) (N := some 27) (v := ?_) (a' := ?_) q13_14 rfl rfl (any_of HT_.out (by kernel_rfl)) (fun _ _ _ h => h) (Or.inl ⟨by rfl, ?_⟩) ?_ ?_; rotate_left
        · intro w'; go_simp; with_reducible rfl
        rotate_left
        · simp only [Act.put, s1, s2, s3, i64_w, i32_w]; rfl
        refine pure_ (i := 14) (N := some 28) (v := ?_) (a' := ?_) q13_15 rfl rfl (any_of HT_.out (by kernel_rfl)) (fun _ _ _ h => h) (Or.inl ⟨by rfl, ?_⟩) ?_ ?_; rotate_left
        · intro w'; go_simp; with_reducible rfl
        rotate_left
        · simp only [Act.put, s1, s2, s3, i64_w, i32_w]; rfl
        refine last_ (i := 15) (N := some 29) q13_16 rfl rfl (one_of HT_.out (by kernel_rfl)) (by decide) (fun K hK => ?_); refine value_ (w1 := ?_) (v := ?_) (by rfl) rfl ?_ ?_; rotate_left 2
        ·
         go_simp; constructor
         · rfl
         rfl
        refine hK.out _ _ ?_; clear hK K; refine norm_ (a' := ?_) ?_ ?_; rotate_left
        · show Act.put _ (some 29) _ = _; simp only [Act.put, s1, s2, s3, i64_w, i32_w]; rfl
        refine last_ (i := 16) (N := some 30) q13_17 rfl rfl (one_of HT_.out (by kernel_rfl)) (by decide) (fun K hK => ?_); refine Kd.R_append_step k77 (w0 := w) w.heap.size (by rfl) (.tmp 14) (.tmp 29) 72 77 (.agg #[(.int .i64 0), (.bool false)]) 16 rfl Try.underlying72 info77 rfl (by decide) (by omega) u4 x4_1 (⟨rd t300 x5_1, decide (x5_1 > 0)⟩ : S77) [.int .i64 (rd t300 x5_1), .bool (decide (x5_1 > 0))] (fun _ => True) (fun _ => False) rfl rfl ?aP (fun _ hk => hk.elim) ?aF ?aO ?aB ?aS ?aL ?_; (case aP => exact k77_mkM _ _ _ (⟨rd t300 x5_1, decide (x5_1 > 0)⟩ : S77))
        (case aB => exact (by repeat (first | (with_reducible first | exact HB.out | apply wA | apply wN | apply wD) | exact HB.out)))
        (case aF => exact (fun _ _ => trivial))
        (case aO => exact (by (with_reducible repeat (first | apply rA | apply rN | apply rD)); exact HO_4.out))
        (case aS => exact (below_size (by repeat (first | (with_reducible first | exact HB.out | apply wA | apply wN | apply wD) | exact HB.out))))
        (case aL => have := LMc9.out; omega)
        intro v306 w12 ho hb hg hat; rw [← Ny305.out] at ho; have n0_ := K0 (Kd.R_over' (by (with_reducible repeat (first | apply rA | apply rN | apply rD)); exact HO_3.out) (Kd.R_typed (by (with_reducible repeat (first | apply rA | apply rN | apply rD)); exact HO_4.out)) (by decide) hg); have n1_ := K0 (hb); have n2_ := K0 (ho); clear HO_3 HB HO_4; have HO_3 := n0_; have HB := n1_; have HO307 := n2_; clear n0_ n1_ n2_ ho hb hg hat; refine hK.out _ _ ?_; clear hK K; refine norm_ (a' := ?_) ?_ ?_; rotate_left
        · show Act.put _ (some 30) _ = _; simp only [Act.put, s1, s2, s3, i64_w, i32_w]; rfl
        refine pure_ (i := 17) (N := some 4) (v := ?_) (a' := ?_) q13_18 rfl rfl (any_of HT_.out (by kernel_rfl)) (fun _ _ _ h => h) (Or.inl ⟨by rfl, ?_⟩) ?_ ?_; rotate_left
        · intro w'; go_simp; with_reducible rfl
        rotate_left
        · simp only [Act.put, s1, s2, s3, i64_w, i32_w]; rfl
        refine done_ (done_of HT_.out (by kernel_rfl)) ?_; try go_wp2
        go_roundg k1
        case measure => have := HK1.out; omega
        case rel => exact ⟨(y305), (wrap64 (x5_1 + 1)), (by first | rfl | (simp; done) | (simp [*]; done)), H', ⟨by have := HK1.out; omega⟩, ⟨by (with_reducible repeat (first | apply rA | apply rN | apply rD)); exact HO_3.out⟩, ⟨by (with_reducible repeat (first | apply rA | apply rN | apply rD)); exact HO307.out⟩, ⟨by repeat (first | (with_reducible first | exact HB.out | apply wA | apply wN | apply wD) | exact HB.out)⟩⟩
       rw [if_neg c9] at H; exact absurd H (by simp)
      replace c8 := Bool.eq_false_iff.mpr c8; subst c8; have H1 : (if x4_1.length < 8796093022208 then (rundlelaw18_towers.l0 k1 l0 t300 (x4_1 ++ [(⟨rd t300 x5_1, false⟩ : S77)]) (wrap64 (x5_1 + 1))) else (none)) = some r := by rw [if_neg (show ¬ (false = true) by decide)] at H; exact H
      clear H; have H := H1; clear H1; by_cases c13 : x4_1.length < 8796093022208
      ·
       rw [if_pos c13] at H; have LMc13 := K0 c13; clear c13; obtain ⟨y308, hy308⟩ : ∃ y_ : List (S77), y_ = (x4_1 ++ [(⟨rd t300 x5_1, false⟩ : S77)]) := ⟨_, rfl⟩; replace H : (rundlelaw18_towers.l0 k1 l0 t300 y308 (wrap64 (x5_1 + 1))) = some r := by first | (rw [hy308]; with_reducible exact H) | (have H2_ := (Option.bind_some _ _).symm.trans H; rw [hy308]; with_reducible exact H2_) | (have H2_ := (Option.bind_some _ _).symm.trans H; with_reducible exact H2_) | with_reducible exact H | (rw [hy308]; exact H) | exact H
       have Ny308 := K0 hy308; clear hy308; have H' := K0 H; clear H; try go_wp2
       have n0_ := K0 (rD HO_3.out); have n1_ := K0 (rD HO_4.out); have n2_ := K0 (wD HB.out); clear HO_3 HO_4 HB; have HO_3 := n0_; have HO_4 := n1_; have HB := n2_; clear n0_ n1_ n2_; obtain ⟨Ao15, co15, eo15⟩ := Kd.R_slice HO_3.out; (first | subst eo15 | (injection eo15 with f1_ f2_ f3_; have f4_ := f1_.symm; have f5_ := f3_.symm; clear f1_ f2_ f3_; subst f4_; subst f5_))
       have p303 : 0 ≤ (x5_1 : Int) := oT (by first | (with_reducible assumption) | assumption); have q303 : x5_1 < (t300.length : Int) := oT (by first | (with_reducible assumption) | assumption); obtain ⟨ad303, e303, hx303_0⟩ := Kd.at_int (Kd.R_reads' HO_3.out).2.2 x5_1 p303 q303
       cases e303; replace p303 := eq_true p303; replace q303 := eq_true q303; have p304 : 0 ≤ (x5_1 : Int) := oT (by first | (with_reducible assumption) | assumption); have q304 : x5_1 < (l0.length : Int) := oT (by first | (with_reducible assumption) | assumption); obtain ⟨ad304, e304, hx304_0, hx304_1, hx304_2, hx304_3, hx304_4, hx304_5⟩ := at_T108 HR0.out x5_1 p304 q304; have hw304_5 := hx304_5; have hw304_4 := hx304_4; have hw304_3 := hx304_3; have hw304_2 := hx304_2; have hw304_1 := hx304_1; have hw304_0 := hx304_0; (try rw [← Nbq7.out] at hx304_4)
       (try rw [← Nbq7.out] at hw304_4)
       (try rw [← Nbq7.out] at hx304_5)
       (try rw [← Nbq7.out] at hw304_5)
       cases e304; replace hx304_0 := (HB.out.cell (bL w _ hx304_0)).trans hx304_0; replace hx304_1 := (HB.out.cell (bL w _ hx304_1)).trans hx304_1; replace hx304_2 := (HB.out.cell (bL w _ hx304_2)).trans hx304_2; replace hx304_3 := (HB.out.cell (bL w _ hx304_3)).trans hx304_3; replace hx304_4 := (HB.out.cell (bL w _ hx304_4)).trans hx304_4; replace hx304_5 := (HB.out.cell (bL w _ hx304_5)).trans hx304_5; replace p304 := eq_true p304; replace q304 := eq_true q304; refine start_ (n := 18) (S := fun w' => w'.cell? (ad303.add (x5_1).toNat) = some (.int .i64 (rd t300 x5_1)) ∧ w'.cell? (ad304.add ((x5_1).toNat * 6)) = some (.int .u8 ((rd_T108 l0 x5_1).f0)) ∧ w'.cell? ⟨(ad304.add ((x5_1).toNat * 6)).block, (ad304.add ((x5_1).toNat * 6)).off + 1, none⟩ = some (.int .u8 ((rd_T108 l0 x5_1).f1)) ∧ w'.cell? ⟨(ad304.add ((x5_1).toNat * 6)).block, (ad304.add ((x5_1).toNat * 6)).off + 2, none⟩ = some (.int .u8 ((rd_T108 l0 x5_1).f2)) ∧ w'.cell? ⟨(ad304.add ((x5_1).toNat * 6)).block, (ad304.add ((x5_1).toNat * 6)).off + 3, none⟩ = some (.int .u8 ((rd_T108 l0 x5_1).f3)) ∧ w'.cell? ⟨(ad304.add ((x5_1).toNat * 6)).block, (ad304.add ((x5_1).toNat * 6)).off + 4, none⟩ = some (.bool ((rd_T108 l0 x5_1).f4)) ∧ w'.cell? ⟨(ad304.add ((x5_1).toNat * 6)).block, (ad304.add ((x5_1).toNat * 6)).off + 5, none⟩ = some (.bool false)) (ds := [15, 16]) q13_0 (by kernel_rfl) rfl rfl ⟨hx303_0, ((HB.out.cell (bL w _ hw304_0)).trans hw304_0), ((HB.out.cell (bL w _ hw304_1)).trans hw304_1), ((HB.out.cell (bL w _ hw304_2)).trans hw304_2), ((HB.out.cell (bL w _ hw304_3)).trans hw304_3), ((HB.out.cell (bL w _ hw304_4)).trans hw304_4), ((HB.out.cell (bL w _ hw304_5)).trans hw304_5)⟩ (fun hHeld => ?_); refine with_tabW rundlelaw18_towers.tab6 rundlelaw18_towers.bits6 (fun HT_ HW_ => ?_)
       generalize wr.drew = w14 at HO_3 HO_4 HB hx303_0 hx304_0 hx304_1 hx304_2 hx304_3 hx304_4 hx304_5 hHeld ⊢; refine pure_ (i := 0) (N := some 14) (v := ?_) (a' := ?_) q13_1 rfl rfl (any_of HT_.out (by kernel_rfl)) (fun _ _ _ h => h) (Or.inl ⟨by rfl, ?_⟩) ?_ ?_; rotate_left
       · intro w'; go_simp; with_reducible rfl
       rotate_left
       · simp only [Act.put, s1, s2, s3, i64_w, i32_w]; rfl
       refine pure_ (i := 1) (N := some 15) (v := ?_) (a' := ?_) q13_2 rfl rfl (any_of HT_.out (by kernel_rfl)) (fun _ _ _ h => h) (Or.inl ⟨by rfl, ?_⟩) ?_ ?_; rotate_left
       · intro w'; go_simp; with_reducible rfl
       rotate_left
       · simp only [Act.put, s1, s2, s3, i64_w, i32_w]; rfl
       refine pure_ (i := 2) (N := some 16) (v := ?_) (a' := ?_) q13_3 rfl rfl (any_of HT_.out (by kernel_rfl)) (fun _ _ _ h => h) (Or.inl ⟨by rfl, ?_⟩) ?_ ?_; rotate_left
       · intro w'; go_simp; with_reducible rfl
       rotate_left
       · simp only [Act.put, s1, s2, s3, i64_w, i32_w]; rfl
       refine pure_ (i := 3) (N := some 17) (v := ?_) (a' := ?_) q13_4 rfl rfl (any_of HT_.out (by kernel_rfl)) (fun _ _ _ h => h) (Or.inl ⟨by rfl, ?_⟩) ?_ ?_; rotate_left
       · intro w'; go_simp; with_reducible rfl
       rotate_left
       · simp only [Act.put, s1, s2, s3, i64_w, i32_w]; rfl
       refine pure_ (i := 5) (N := some 19) (v := ?_) (a' := ?_) q13_5 rfl rfl (any_of HT_.out (by kernel_rfl)) (fun _ _ _ h => h) (Or.inl ⟨by rfl, ?_⟩) ?_ ?_; rotate_left
       · intro w'; go_simp; with_reducible rfl
       rotate_left
       · simp only [Act.put, s1, s2, s3, i64_w, i32_w]; rfl
       refine pure_ (i := 6) (N := some 20) (v := ?_) (a' := ?_) q13_6 rfl rfl (any_of HT_.out (by kernel_rfl)) (fun _ _ _ h => h) (Or.inl ⟨by rfl, ?_⟩) ?_ ?_; rotate_left
       · intro w'; go_simp; with_reducible rfl
       rotate_left
       · simp only [Act.put, s1, s2, s3, i64_w, i32_w]; rfl
       refine pure_ (i := 7) (N := some 21) (v := ?_) (a' := ?_) q13_7 rfl rfl (any_of HT_.out (by kernel_rfl)) (fun _ _ _ h => h) (Or.inl ⟨by rfl, ?_⟩) ?_ ?_; rotate_left
       · intro w'; go_simp; with_reducible rfl
       rotate_left
       · simp only [Act.put, s1, s2, s3, i64_w, i32_w]; rfl
       refine pure_ (i := 8) (N := some 22) (v := ?_) (a' := ?_) q13_8 rfl rfl (any_of HT_.out (by kernel_rfl)) (fun _ _ _ h => h) (Or.inl ⟨by rfl, ?_⟩) ?_ ?_; rotate_left
       · intro w'; go_simp; with_reducible rfl
       rotate_left
       · simp only [Act.put, s1, s2, s3, i64_w, i32_w]; rfl
       refine take_ (i := 4) (N := some 18) (v := ?_) (a' := ?_) q13_9 rfl rfl (take_ofW HT_.out HW_.out (by kernel_rfl)) (fun _ _ _ h => h) (Or.inl ⟨by rfl, ?_⟩) hHeld ?_ ?_; rotate_left
       · rintro w' ⟨s0, s1, s2, s3, s4, s5, s6⟩; go_simp; with_reducible rfl
       rotate_left
       · simp only [Act.put, s1, s2, s3, i64_w, i32_w]; rfl
       refine take_ (i := 9) (N := some 23) (v := ?_) (a' := ?_) q13_10 rfl rfl (take_ofW HT_.out HW_.out (by kernel_rfl)) (fun _ _ _ h => h) (Or.inl ⟨by rfl, ?_⟩) hHeld ?_ ?_; rotate_left
       · rintro w' ⟨s0, s1, s2, s3, s4, s5, s6⟩; go_simp; with_reducible rfl
       rotate_left
       · simp only [Act.put, s1, s2, s3, i64_w, i32_w]; rfl
       refine pure_ (i := 10) (N := some 24) (v := ?_) (a' := ?_) q13_11 rfl rfl (any_of HT_.out (by kernel_rfl)) (fun _ _ _ h => h) (Or.inl ⟨by rfl, ?_⟩) ?_ ?_; rotate_left
       · intro w'; go_simp; with_reducible rfl
       rotate_left
       · simp only [Act.put, s1, s2, s3, i64_w, i32_w]; rfl
       refine pure_ (i := 11) (N := some 25) (v := undef) (a' := ?_) q13_12 rfl rfl (any_of HT_.out (by kernel_rfl)) (fun _ _ _ h => h) (Or.inr ⟨by rfl, rfl⟩) ?_ ?_; rotate_left
       · simp only [Act.put, s1, s2, s3, i64_w, i32_w]; rfl
       refine pure_ (i := 12) (N := some 26) (v := undef) (a' := ?_) q13_13 rfl rfl (any_of HT_.out (by kernel_rfl)) (fun _ _ _ h => h) (Or.inr ⟨by rfl, rfl⟩) ?_ ?_; rotate_left
       · simp only [Act.put, s1, s2, s3, i64_w, i32_w]; rfl
       refine pure_ (i := 13) (N := some 27) (v := ?_) (a' := ?_) q13_14 rfl rfl (any_of HT_.out (by kernel_rfl)) (fun _ _ _ h => h) (Or.inl ⟨by rfl, ?_⟩) ?_ ?_; rotate_left
       · intro w'; go_simp; with_reducible rfl
       rotate_left
       · simp only [Act.put, s1, s2, s3, i64_w, i32_w]; rfl
       refine pure_ (i := 14) (N := some 28) (v := ?_) (a' := ?_) q13_15 rfl rfl (any_of HT_.out (by kernel_rfl)) (fun _ _ _ h => h) (Or.inl ⟨by rfl, ?_⟩) ?_ ?_; rotate_left
       · intro w'; go_simp; with_reducible rfl
       rotate_left
       · simp only [Act.put, s1, s2, s3, i64_w, i32_w]; rfl
       refine last_ (i := 15) (N := some 29) q13_16 rfl rfl (one_of HT_.out (by kernel_rfl)) (by decide) (fun K hK => ?_); refine value_ (w1 := ?_) (v := ?_) (by rfl) rfl ?_ ?_; rotate_left 2
       ·
        go_simp; constructor
        · rfl
        rfl
       refine hK.out _ _ ?_; clear hK K; refine norm_ (a' := ?_) ?_ ?_; rotate_left
       · show Act.put _ (some 29) _ = _; simp only [Act.put, s1, s2, s3, i64_w, i32_w]; rfl
       refine last_ (i := 16) (N := some 30) q13_17 rfl rfl (one_of HT_.out (by kernel_rfl)) (by decide) (fun K hK => ?_); refine Kd.R_append_step k77 (w0 := w) w.heap.size (by rfl) (.tmp 14) (.tmp 29) 72 77 (.agg #[(.int .i64 0), (.bool false)]) 16 rfl Try.underlying72 info77 rfl (by decide) (by omega) u4 x4_1 (⟨rd t300 x5_1, false⟩ : S77) [.int .i64 (rd t300 x5_1), .bool false] (fun _ => True) (fun _ => False) rfl rfl ?aP (fun _ hk => hk.elim) ?aF ?aO ?aB ?aS ?aL ?_; (case aP => exact k77_mkM _ _ _ (⟨rd t300 x5_1, false⟩ : S77))
       (case aB => exact (by repeat (first | (with_reducible first | exact HB.out | apply wA | apply wN | apply wD) | exact HB.out)))
       (case aF => exact (fun _ _ => trivial))
       (case aO => exact (by (with_reducible repeat (first | apply rA | apply rN | apply rD)); exact HO_4.out))
       (case aS => exact (below_size (by repeat (first | (with_reducible first | exact HB.out | apply wA | apply wN | apply wD) | exact HB.out))))
       (case aL => have := LMc13.out; omega)
       intro v309 w16 ho hb hg hat; rw [← Ny308.out] at ho; have n0_ := K0 (Kd.R_over' (by (with_reducible repeat (first | apply rA | apply rN | apply rD)); exact HO_3.out) (Kd.R_typed (by (with_reducible repeat (first | apply rA | apply rN | apply rD)); exact HO_4.out)) (by decide) hg); have n1_ := K0 (hb); have n2_ := K0 (ho); clear HO_3 HB HO_4; have HO_3 := n0_; have HB := n1_; have HO310 := n2_; clear n0_ n1_ n2_ ho hb hg hat; refine hK.out _ _ ?_; clear hK K; refine norm_ (a' := ?_) ?_ ?_; rotate_left
       · show Act.put _ (some 30) _ = _; simp only [Act.put, s1, s2, s3, i64_w, i32_w]; rfl
       refine pure_ (i := 17) (N := some 4) (v := ?_) (a' := ?_) q13_18 rfl rfl (any_of HT_.out (by kernel_rfl)) (fun _ _ _ h => h) (Or.inl ⟨by rfl, ?_⟩) ?_ ?_; rotate_left
       · intro w'; go_simp; with_reducible rfl
       rotate_left
       · simp only [Act.put, s1, s2, s3, i64_w, i32_w]; rfl
       refine done_ (done_of HT_.out (by kernel_rfl)) ?_; try go_wp2
       go_roundg k1
       case measure => have := HK1.out; omega
       case rel => exact ⟨(y308), (wrap64 (x5_1 + 1)), (by first | rfl | (simp; done) | (simp [*]; done)), H', ⟨by have := HK1.out; omega⟩, ⟨by (with_reducible repeat (first | apply rA | apply rN | apply rD)); exact HO_3.out⟩, ⟨by (with_reducible repeat (first | apply rA | apply rN | apply rD)); exact HO310.out⟩, ⟨by repeat (first | (with_reducible first | exact HB.out | apply wA | apply wN | apply wD) | exact HB.out)⟩⟩
      rw [if_neg c13] at H; exact absurd H (by simp)
     rw [if_neg c6] at H; exact absurd H (by simp)
    rw [if_neg c5] at H; exact absurd H (by simp)
   rw [if_neg c4] at H; have c4b0 : decide (x5_1 < (l0.length : Int)) = false := dF c4; clear c4; obtain rfl := Option.some.inj H; go_wp2
   go_ret; exact ⟨_, by first | rfl | (simp [errW_none, errW_some] <;> rfl) | (simp [*, errW_none, errW_some] <;> rfl), by (with_reducible repeat (first | apply rA | apply rN | apply rD)); exact HO_4.out, by repeat (first | (with_reducible first | exact HB.out | apply wA | apply wN | apply wD) | exact HB.out)⟩
/-! ### rundleref18_Leads: function 37 -/
def rundleref18_Leads.l0 : Nat → List (S77) → Int → Int → Int → Option (Int)
 | 0, _, _, _, _ => none
 | k + 1, x0, x1, x2, x7 => if x7 < (x0.length : Int) then (if x7 > x1 then (if 0 ≤ x7 then (if ((rd_T77 x0 x7).f1 = true) then (rundleref18_Leads.l0 k x0 x1 x2 (wrap64 (x7 + 1))) else (if ((rd_T77 x0 x7).f0) > x2 then (some x7) else (rundleref18_Leads.l0 k x0 x1 x2 (wrap64 (x7 + 1))))) else (none)) else (rundleref18_Leads.l0 k x0 x1 x2 (wrap64 (x7 + 1)))) else (some (-1))
def rundleref18_Leads.f (k : Nat) (l0 : List (S77)) (a1 : Int) (a2 : Int) : Option (Int) := if a2 < 0 then (some (-1)) else (rundleref18_Leads.l0 k l0 a1 a2 0)
set_option maxHeartbeats 8000000 in
set_option maxRecDepth 100000 in
theorem rundleref18_Leads.calls (k : Nat) (A0 : Option Addr) (c0 : Nat) (l0 : List (S77)) (a1 : Int) (a2 : Int) (r : Int) (w : World) (hr0 : Kd.C k77 w A0 l0.length l0) (hc0 : l0.length ≤ c0) (h : rundleref18_Leads.f k l0 a1 a2 = some r) :
  Calls Try.prog 37 #[.slice A0 l0.length c0, .int .i64 a1, .int .i64 a2] w fun e w' => e = .returned (.int .i64 r) ∧ Drawn0 w w' := by
 have HR0 := K0 hr0
 have HC0 := K0 hc0
 clear hr0 hc0
 have H : (if a2 < 0 then (some (-1)) else (rundleref18_Leads.l0 k l0 a1 a2 0)) = some r := h
 clear h
 by_cases c4 : a2 < 0
 ·
  rw [if_pos c4] at H
  have c4b0 : decide (a2 < 0) = true := dT c4
  clear c4
  obtain rfl := Option.some.inj H
  go_enter Try.func37, Try.ntmps37
  go_wp2
  go_ret
  exact ⟨by first | rfl | (simp; done) | (simp [*]; done), by repeat (first | exact Drawn0.refl _ | apply Drawn0.step)⟩
 rw [if_neg c4] at H
 have c4b0 : decide (a2 < 0) = false := dF c4
 clear c4
 have H' := K0 H
 clear H
 go_enter Try.func37, Try.ntmps37
 go_wp2
 go_loopg [7] k (fun kq v7 w' => ∃ (x7_1 : Int), v7 = .int .i64 x7_1 ∧ Aside0 (rundleref18_Leads.l0 kq l0 a1 a2 x7_1 = some r) ∧ Aside0 (kq ≤ k) ∧ Drawn0 w w')
 case atStart => exact ⟨(0), (by first | rfl | (simp; done) | (simp [*]; done)), H', ⟨Nat.le_refl _⟩, by repeat (first | exact Drawn0.refl _ | apply Drawn0.step)⟩
 case round =>
  clear H'
  try clear p2
  try clear c3
  try clear c4
  try clear c4b0
  obtain ⟨x7_1, rfl, HA, HK1, ⟨m1, rfl⟩⟩ := hrel
  cases gk with
  | zero => exact absurd HA.out (by simp [rundleref18_Leads.l0])
  | succ k1 =>
   have H := HA.out; clear HA; simp only [rundleref18_Leads.l0] at H; by_cases c5 : x7_1 < (l0.length : Int)
   ·
    rw [if_pos c5] at H; have c5b0 : decide (x7_1 < (l0.length : Int)) = true := dT c5; clear c5; by_cases c6 : x7_1 > a1
    ·
     rw [if_pos c6] at H; have c6b0 : decide (a1 < x7_1) = true := dT c6; clear c6; by_cases c7 : 0 ≤ x7_1
     ·
      rw [if_pos c7] at H; have c7b0 : decide (0 ≤ x7_1) = true := dT c7; clear c7; obtain ⟨bq8, hbq8⟩ : ∃ b_ : Bool, b_ = ((rd_T77 l0 x7_1).f1) := ⟨_, rfl⟩; replace H : (if (bq8 = true) then (rundleref18_Leads.l0 k1 l0 a1 a2 (wrap64 (x7_1 + 1))) else (if ((rd_T77 l0 x7_1).f0) > a2 then (some x7_1) else (rundleref18_Leads.l0 k1 l0 a1 a2 (wrap64 (x7_1 + 1))))) = some r := by rw [← hbq8] at H; exact H
      have Nbq8 := K0 hbq8; clear hbq8; by_cases c9 : (bq8 = true)
      ·
       subst c9; have H1 : (rundleref18_Leads.l0 k1 l0 a1 a2 (wrap64 (x7_1 + 1))) = some r := by rw [if_pos rfl] at H; exact H
       clear H; have H := H1; clear H1; have H' := K0 H; clear H; have p311 : 0 ≤ (x7_1 : Int) := oT (by first | (with_reducible assumption) | assumption); have q311 : x7_1 < (l0.length : Int) := oT (by first | (with_reducible assumption) | assumption); obtain ⟨ad311, e311, hx311_0, hx311_1⟩ := at_T77 HR0.out x7_1 p311 q311; (try rw [← Nbq8.out] at hx311_1)
       cases e311; replace p311 := eq_true p311; replace q311 := eq_true q311; go_wp2
       go_roundg k1
       case measure => have := HK1.out; omega
       case rel => exact ⟨(wrap64 (x7_1 + 1)), (by first | rfl | (simp; done) | (simp [*]; done)), H', ⟨by have := HK1.out; omega⟩, by repeat (first | exact Drawn0.refl _ | apply Drawn0.step)⟩
      replace c9 := Bool.eq_false_iff.mpr c9; subst c9; have H1 : (if ((rd_T77 l0 x7_1).f0) > a2 then (some x7_1) else (rundleref18_Leads.l0 k1 l0 a1 a2 (wrap64 (x7_1 + 1)))) = some r := by rw [if_neg (show ¬ (false = true) by decide)] at H; exact H
      clear H; have H := H1; clear H1; by_cases c10 : ((rd_T77 l0 x7_1).f0) > a2
      ·
       rw [if_pos c10] at H; have c10b0 : decide (a2 < ((rd_T77 l0 x7_1).f0)) = true := dT c10; clear c10; obtain rfl := Option.some.inj H; have p311 : 0 ≤ (x7_1 : Int) := oT (by first | (with_reducible assumption) | assumption); have q311 : x7_1 < (l0.length : Int) := oT (by first | (with_reducible assumption) | assumption); obtain ⟨ad311, e311, hx311_0, hx311_1⟩ := at_T77 HR0.out x7_1 p311 q311; (try rw [← Nbq8.out] at hx311_1)
       cases e311; replace p311 := eq_true p311; replace q311 := eq_true q311; have p312 : 0 ≤ (x7_1 : Int) := oT (by first | (with_reducible assumption) | assumption); have q312 : x7_1 < (l0.length : Int) := oT (by first | (with_reducible assumption) | assumption); obtain ⟨ad312, e312, hx312_0, hx312_1⟩ := at_T77 HR0.out x7_1 p312 q312; (try rw [← Nbq8.out] at hx312_1)
       obtain rfl : ad311 = ad312 := (by injection e312); replace p312 := eq_true p312; replace q312 := eq_true q312; go_wp2
       go_ret; exact ⟨by first | rfl | (simp; done) | (simp [*]; done), by repeat (first | exact Drawn0.refl _ | apply Drawn0.step)⟩
      rw [if_neg c10] at H; have c10b0 : decide (a2 < ((rd_T77 l0 x7_1).f0)) = false := dF c10; clear c10; have H' := K0 H; clear H; have p311 : 0 ≤ (x7_1 : Int) := oT (by first | (with_reducible assumption) | assumption); have q311 : x7_1 < (l0.length : Int) := oT (by first | (with_reducible assumption) | assumption); obtain ⟨ad311, e311, hx311_0, hx311_1⟩ := at_T77 HR0.out x7_1 p311 q311; (try rw [← Nbq8.out] at hx311_1)
      cases e311; replace p311 := eq_true p311; replace q311 := eq_true q311; have p312 : 0 ≤ (x7_1 : Int) := oT (by first | (with_reducible assumption) | assumption); have q312 : x7_1 < (l0.length : Int) := oT (by first | (with_reducible assumption) | assumption); obtain ⟨ad312, e312, hx312_0, hx312_1⟩ := at_T77 HR0.out x7_1 p312 q312; (try rw [← Nbq8.out] at hx312_1)
      obtain rfl : ad311 = ad312 := (by injection e312); replace p312 := eq_true p312; replace q312 := eq_true q312; go_wp2
      go_roundg k1
      case measure => have := HK1.out; omega
      case rel => exact ⟨(wrap64 (x7_1 + 1)), (by first | rfl | (simp; done) | (simp [*]; done)), H', ⟨by have := HK1.out; omega⟩, by repeat (first | exact Drawn0.refl _ | apply Drawn0.step)⟩
     rw [if_neg c7] at H; exact absurd H (by simp)
    rw [if_neg c6] at H; have c6b0 : decide (a1 < x7_1) = false := dF c6; clear c6; have H' := K0 H; clear H; go_wp2
    go_roundg k1
    case measure => have := HK1.out; omega
    case rel => exact ⟨(wrap64 (x7_1 + 1)), (by first | rfl | (simp; done) | (simp [*]; done)), H', ⟨by have := HK1.out; omega⟩, by repeat (first | exact Drawn0.refl _ | apply Drawn0.step)⟩
   rw [if_neg c5] at H; have c5b0 : decide (x7_1 < (l0.length : Int)) = false := dF c5; clear c5; obtain rfl := Option.some.inj H; go_wp2
   go_ret; exact ⟨by first | rfl | (simp; done) | (simp [*]; done), by repeat (first | exact Drawn0.refl _ | apply Drawn0.step)⟩
end Go.Proofs.Ytoaacdjcjicemaa.PPlanRelinks
