-- written by a program of this session (the print, turned)
import Derived.Test.YtoaacdjcjicemaaPPlanEmptiesx0
import Derived.Test.YtoaacdjcjicemaaPPlanEmptiesx8
import Derived.Test.YtoaacdjcjicemaaPPlanEmptiesx12
import Derived.Test.YtoaacdjcjicemaaPPlanEmptiesx13
import Derived.Test.YtoaacdjcjicemaaPPlanEmptiesx14
import Derived.Test.YtoaacdjcjicemaaWAl
namespace Go.Proofs.Ytoaacdjcjicemaa.PPlanEmpties
open Go.RowKit Go.Proofs.YtoaacdjcjicemaaW.PrintWords Go.Proofs.YtoaacdjcjicemaaW.PrintLast Go.Proofs.YtoaacdjcjicemaaW.PrintMore
attribute [local go_sem] cell_self cell_there leq_str geq_str gtr_str max2_str max2_int min2_int max_two min_two max_three min_three max_four min_four   -- for this text's walks alone
set_option linter.unusedVariables false
set_option linter.unusedSimpArgs false
abbrev q15_0 : Array Bool := #[false, false, false, false, false, false, false, false, false, false, false, false, false, false, false, false, false, false, false, false, false, false, false, false, false]
abbrev q15_1 : Array Bool := #[true, false, false, false, false, false, false, false, false, false, false, false, false, false, false, false, false, false, false, false, false, false, false, false, false]
abbrev q15_2 : Array Bool := #[true, true, false, false, false, false, false, false, false, false, false, false, false, false, false, false, false, false, false, false, false, false, false, false, false]
abbrev q15_3 : Array Bool := #[true, true, true, false, false, false, false, false, false, false, false, false, false, false, false, false, false, false, false, false, false, false, false, false, false]
abbrev q15_4 : Array Bool := #[true, true, true, true, false, false, false, false, false, false, false, false, false, false, false, false, false, false, false, false, false, false, false, false, false]
abbrev q15_5 : Array Bool := #[true, true, true, true, true, false, false, false, false, false, false, false, false, false, false, false, false, false, false, false, false, false, false, false, false]
abbrev q15_6 : Array Bool := #[true, true, true, true, true, false, false, true, false, false, false, false, false, false, false, false, false, false, false, false, false, false, false, false, false]
abbrev q15_7 : Array Bool := #[true, true, true, true, true, false, false, true, true, false, false, false, false, false, false, false, false, false, false, false, false, false, false, false, false]
abbrev q15_8 : Array Bool := #[true, true, true, true, true, false, false, true, true, true, false, false, false, false, false, false, false, false, false, false, false, false, false, false, false]
abbrev q15_9 : Array Bool := #[true, true, true, true, true, false, false, true, true, true, true, false, false, false, false, false, false, false, false, false, false, false, false, false, false]
abbrev q15_10 : Array Bool := #[true, true, true, true, true, false, false, true, true, true, true, false, false, false, true, false, false, false, false, false, false, false, false, false, false]
abbrev q15_11 : Array Bool := #[true, true, true, true, true, false, false, true, true, true, true, false, false, false, true, true, false, false, false, false, false, false, false, false, false]
abbrev q15_12 : Array Bool := #[true, true, true, true, true, false, false, true, true, true, true, false, false, false, true, true, true, false, false, false, false, false, false, false, false]
abbrev q15_13 : Array Bool := #[true, true, true, true, true, false, false, true, true, true, true, false, false, false, true, true, true, true, false, false, false, false, false, false, false]
abbrev q15_14 : Array Bool := #[true, true, true, true, true, true, false, true, true, true, true, false, false, false, true, true, true, true, false, false, false, false, false, false, false]
abbrev q15_15 : Array Bool := #[true, true, true, true, true, true, true, true, true, true, true, false, false, false, true, true, true, true, false, false, false, false, false, false, false]
abbrev q15_16 : Array Bool := #[true, true, true, true, true, true, true, true, true, true, true, true, false, false, true, true, true, true, false, false, false, false, false, false, false]
abbrev q15_17 : Array Bool := #[true, true, true, true, true, true, true, true, true, true, true, true, true, false, true, true, true, true, false, false, false, false, false, false, false]
abbrev q15_18 : Array Bool := #[true, true, true, true, true, true, true, true, true, true, true, true, true, true, true, true, true, true, false, false, false, false, false, false, false]
abbrev q15_19 : Array Bool := #[true, true, true, true, true, true, true, true, true, true, true, true, true, true, true, true, true, true, true, false, false, false, false, false, false]
abbrev q15_20 : Array Bool := #[true, true, true, true, true, true, true, true, true, true, true, true, true, true, true, true, true, true, true, true, false, false, false, false, false]
abbrev q15_21 : Array Bool := #[true, true, true, true, true, true, true, true, true, true, true, true, true, true, true, true, true, true, true, true, true, false, false, false, false]
abbrev q15_22 : Array Bool := #[true, true, true, true, true, true, true, true, true, true, true, true, true, true, true, true, true, true, true, true, true, true, false, false, false]
abbrev q15_23 : Array Bool := #[true, true, true, true, true, true, true, true, true, true, true, true, true, true, true, true, true, true, true, true, true, true, true, false, false]
abbrev q15_24 : Array Bool := #[true, true, true, true, true, true, true, true, true, true, true, true, true, true, true, true, true, true, true, true, true, true, true, true, false]
abbrev q15_25 : Array Bool := #[true, true, true, true, true, true, true, true, true, true, true, true, true, true, true, true, true, true, true, true, true, true, true, true, true]
/-! ### rundlelaw18_nodes: function 47 -/
def rundlelaw18_nodes.l0 : Nat → List (S108) → List (S144) → Int → Option ((List (S144)))
 | 0, _, _, _ => none
 | k + 1, x0, x3, x4 => if x4 < (x0.length : Int) then (if 0 ≤ x4 then (if x3.length < 5864062014805 then (rundlelaw18_nodes.l0 k x0 (x3 ++ [(⟨wrap64 ((rd_T108 x0 x4).f1), wrap64 (16 * (wrap64 ((rd_T108 x0 x4).f2))), Int.tmod (wrap64 ((rd_T108 x0 x4).f3)) 70⟩ : S144)]) (wrap64 (x4 + 1))) else (none)) else (none)) else (some x3)
def rundlelaw18_nodes.f (k : Nat) (l0 : List (S108)) : Option ((List (S144))) := rundlelaw18_nodes.l0 k l0 ([] : List (S144)) 0
def rundlelaw18_nodes.T5 : Bool × List (List Nat × List Nat) := (true, [([], []), ([], []), ([], []), ([1, 2], [1, 2]), ([3], [3]), ([4], [4]), ([5], [5]), ([], []), ([], []), ([7, 8], [7, 8]), ([9], [9]), ([10], [10]), ([11], [11]), ([12], [12]), ([], []), ([], []), ([14, 15], [14, 15]), ([16], [16]), ([17], [17]), ([18], [18]), ([19], [19]), ([6, 13, 20], [6, 13, 20]), ([21], [21]), ([0, 22], [0, 22]), ([23, 23, 0, 1, 2, 3, 4, 5, 6, 7, 8, 9, 10, 11, 12, 13, 14, 15, 16, 17, 18, 19, 20, 21, 22, 23], [0, 23])])
def rundlelaw18_nodes.B5 : List Nat := [0, 0, 0, 6, 14, 30, 62, 0, 0, 384, 896, 1920, 3968, 8064, 0, 0, 49152, 114688, 245760, 507904, 1032192, 2097150, 4194302, 8388607, 16777215]
theorem rundlelaw18_nodes.tab5 : rtab .any (opsOf Try.f47 5) = rundlelaw18_nodes.T5 := by kernel_rfl
theorem rundlelaw18_nodes.bits5 : waitsOk rundlelaw18_nodes.T5.2 rundlelaw18_nodes.B5 = true := by kernel_rfl
set_option maxHeartbeats 8000000 in
set_option maxRecDepth 100000 in
theorem rundlelaw18_nodes.calls (k : Nat) (A0 : Option Addr) (c0 : Nat) (l0 : List (S108)) (r : List (S144)) (w : World) (hr0 : Kd.C k108 w A0 l0.length l0) (hc0 : l0.length ≤ c0) (h : rundlelaw18_nodes.f k l0 = some r) :
  Calls Try.prog 47 #[.slice A0 l0.length c0] w fun e w' => ∃ v0_ : Value, e = .returned (v0_) ∧ Kd.R k144 144 w' w.heap.size (fun _ => True) v0_ r ∧ Below w.heap.size w w' := by
 have hu144 := Try.underlying144
 have HR0 := K0 hr0
 have HC0 := K0 hc0
 clear hr0 hc0
 have HB := K0 (Below.refl w.heap.size w)
 have H : (rundlelaw18_nodes.l0 k l0 ([] : List (S144)) 0) = some r := h
 clear h
 have H' := K0 H
 clear H
 go_enter Try.func47, Try.ntmps47
 go_wp2
 go_loopg [3, 4] k (fun kq v3 v4 w' => ∃ (x3_1 : List (S144)) (x4_1 : Int), v4 = .int .i64 x4_1 ∧ Aside0 (rundlelaw18_nodes.l0 kq l0 x3_1 x4_1 = some r) ∧ Aside0 (kq ≤ k) ∧ Aside0 (Kd.R k144 144 w' w.heap.size (fun _ => True) v3 x3_1) ∧ Aside0 (Below w.heap.size w w'))
 case atStart => exact ⟨(([] : List (S144))), (0), (by first | rfl | (simp; done) | (simp [*]; done)), H', ⟨Nat.le_refl _⟩, ⟨by first | exact Kd.R_nil _ _ _ _ _ | exact Kd.N_nil _ _ _ _ _ | exact Kd.V_nil _ _ _ _ _ | exact Kd.Q_nil _ _ _ _ _ | exact Kd.S_nil _ _ _ _ _⟩, ⟨by repeat (first | (with_reducible first | exact HB.out | apply wA | apply wN | apply wD) | exact HB.out)⟩⟩
 case round =>
  clear H'
  obtain ⟨x3_1, x4_1, rfl, HA, HK1, HO_3, HB⟩ := hrel
  cases gk with
  | zero => exact absurd HA.out (by simp [rundlelaw18_nodes.l0])
  | succ k1 =>
   have H := HA.out; clear HA; simp only [rundlelaw18_nodes.l0] at H; by_cases c2 : x4_1 < (l0.length : Int)
   ·
    rw [if_pos c2] at H; have c2b0 : decide (x4_1 < (l0.length : Int)) = true := dT c2; clear c2; by_cases c3 : 0 ≤ x4_1
    ·
     rw [if_pos c3] at H; have c3b0 : decide (0 ≤ x4_1) = true := dT c3; clear c3; by_cases c4 : x3_1.length < 5864062014805
     ·
      rw [if_pos c4] at H; have LMc4 := K0 c4; clear c4; obtain ⟨y333, hy333⟩ : ∃ y_ : List (S144), y_ = (x3_1 ++ [(⟨wrap64 ((rd_T108 l0 x4_1).f1), wrap64 (16 * (wrap64 ((rd_T108 l0 x4_1).f2))), Int.tmod (wrap64 ((rd_T108 l0 x4_1).f3)) 70⟩ : S144)]) := ⟨_, rfl⟩; replace H : (rundlelaw18_nodes.l0 k1 l0 y333 (wrap64 (x4_1 + 1))) = some r := by first | (rw [hy333]; with_reducible exact H) | (have H2_ := (Option.bind_some _ _).symm.trans H; rw [hy333]; with_reducible exact H2_) | (have H2_ := (Option.bind_some _ _).symm.trans H; with_reducible exact H2_) | with_reducible exact H | (rw [hy333]; exact H) | exact H
      have Ny333 := K0 hy333; clear hy333; have H' := K0 H; clear H; try go_wp2
      have n0_ := K0 (rD HO_3.out); have n1_ := K0 (wD HB.out); clear HO_3 HB; have HO_3 := n0_; have HB := n1_; clear n0_ n1_; have p330 : 0 ≤ (x4_1 : Int) := oT (by first | (with_reducible assumption) | assumption); have q330 : x4_1 < (l0.length : Int) := oT (by first | (with_reducible assumption) | assumption); obtain ⟨ad330, e330, hx330_0, hx330_1, hx330_2, hx330_3, hx330_4, hx330_5⟩ := at_T108 HR0.out x4_1 p330 q330; have hw330_5 := hx330_5; have hw330_4 := hx330_4; have hw330_3 := hx330_3; have hw330_2 := hx330_2; have hw330_1 := hx330_1; have hw330_0 := hx330_0
      cases e330; replace hx330_0 := (HB.out.cell (bL w _ hx330_0)).trans hx330_0; replace hx330_1 := (HB.out.cell (bL w _ hx330_1)).trans hx330_1; replace hx330_2 := (HB.out.cell (bL w _ hx330_2)).trans hx330_2; replace hx330_3 := (HB.out.cell (bL w _ hx330_3)).trans hx330_3; replace hx330_4 := (HB.out.cell (bL w _ hx330_4)).trans hx330_4; replace hx330_5 := (HB.out.cell (bL w _ hx330_5)).trans hx330_5; replace p330 := eq_true p330; replace q330 := eq_true q330; have p331 : 0 ≤ (x4_1 : Int) := oT (by first | (with_reducible assumption) | assumption); have q331 : x4_1 < (l0.length : Int) := oT (by first | (with_reducible assumption) | assumption); obtain ⟨ad331, e331, hx331_0, hx331_1, hx331_2, hx331_3, hx331_4, hx331_5⟩ := at_T108 HR0.out x4_1 p331 q331; have hw331_5 := hx331_5; have hw331_4 := hx331_4; have hw331_3 := hx331_3; have hw331_2 := hx331_2; have hw331_1 := hx331_1; have hw331_0 := hx331_0; obtain rfl : ad330 = ad331 := (by injection e331); replace hx331_0 := (HB.out.cell (bL w _ hx331_0)).trans hx331_0; replace hx331_1 := (HB.out.cell (bL w _ hx331_1)).trans hx331_1; replace hx331_2 := (HB.out.cell (bL w _ hx331_2)).trans hx331_2; replace hx331_3 := (HB.out.cell (bL w _ hx331_3)).trans hx331_3; replace hx331_4 := (HB.out.cell (bL w _ hx331_4)).trans hx331_4; replace hx331_5 := (HB.out.cell (bL w _ hx331_5)).trans hx331_5; replace p331 := eq_true p331; replace q331 := eq_true q331; have p332 : 0 ≤ (x4_1 : Int) := oT (by first | (with_reducible assumption) | assumption); have q332 : x4_1 < (l0.length : Int) := oT (by first | (with_reducible assumption) | assumption); obtain ⟨ad332, e332, hx332_0, hx332_1, hx332_2, hx332_3, hx332_4, hx332_5⟩ := at_T108 HR0.out x4_1 p332 q332; have hw332_5 := hx332_5; have hw332_4 := hx332_4; have hw332_3 := hx332_3; have hw332_2 := hx332_2; have hw332_1 := hx332_1; have hw332_0 := hx332_0; obtain rfl : ad330 = ad332 := (by injection e332); replace hx332_0 := (HB.out.cell (bL w _ hx332_0)).trans hx332_0; replace hx332_1 := (HB.out.cell (bL w _ hx332_1)).trans hx332_1; replace hx332_2 := (HB.out.cell (bL w _ hx332_2)).trans hx332_2; replace hx332_3 := (HB.out.cell (bL w _ hx332_3)).trans hx332_3; replace hx332_4 := (HB.out.cell (bL w _ hx332_4)).trans hx332_4; replace hx332_5 := (HB.out.cell (bL w _ hx332_5)).trans hx332_5; replace p332 := eq_true p332; replace q332 := eq_true q332; refine start_ (n := 25) (S := fun w' => w'.cell? (ad330.add ((x4_1).toNat * 6)) = some (.int .u8 ((rd_T108 l0 x4_1).f0)) ∧ w'.cell? ⟨(ad330.add ((x4_1).toNat * 6)).block, (ad330.add ((x4_1).toNat * 6)).off + 1, none⟩ = some (.int .u8 ((rd_T108 l0 x4_1).f1)) ∧ w'.cell? ⟨(ad330.add ((x4_1).toNat * 6)).block, (ad330.add ((x4_1).toNat * 6)).off + 2, none⟩ = some (.int .u8 ((rd_T108 l0 x4_1).f2)) ∧ w'.cell? ⟨(ad330.add ((x4_1).toNat * 6)).block, (ad330.add ((x4_1).toNat * 6)).off + 3, none⟩ = some (.int .u8 ((rd_T108 l0 x4_1).f3)) ∧ w'.cell? ⟨(ad330.add ((x4_1).toNat * 6)).block, (ad330.add ((x4_1).toNat * 6)).off + 4, none⟩ = some (.bool ((rd_T108 l0 x4_1).f4)) ∧ w'.cell? ⟨(ad330.add ((x4_1).toNat * 6)).block, (ad330.add ((x4_1).toNat * 6)).off + 5, none⟩ = some (.bool ((rd_T108 l0 x4_1).f5)) ∧ w'.cell? (ad330.add ((x4_1).toNat * 6)) = some (.int .u8 ((rd_T108 l0 x4_1).f0)) ∧ w'.cell? ⟨(ad330.add ((x4_1).toNat * 6)).block, (ad330.add ((x4_1).toNat * 6)).off + 1, none⟩ = some (.int .u8 ((rd_T108 l0 x4_1).f1)) ∧ w'.cell? ⟨(ad330.add ((x4_1).toNat * 6)).block, (ad330.add ((x4_1).toNat * 6)).off + 2, none⟩ = some (.int .u8 ((rd_T108 l0 x4_1).f2)) ∧ w'.cell? ⟨(ad330.add ((x4_1).toNat * 6)).block, (ad330.add ((x4_1).toNat * 6)).off + 3, none⟩ = some (.int .u8 ((rd_T108 l0 x4_1).f3)) ∧ w'.cell? ⟨(ad330.add ((x4_1).toNat * 6)).block, (ad330.add ((x4_1).toNat * 6)).off + 4, none⟩ = some (.bool ((rd_T108 l0 x4_1).f4)) ∧ w'.cell? ⟨(ad330.add ((x4_1).toNat * 6)).block, (ad330.add ((x4_1).toNat * 6)).off + 5, none⟩ = some (.bool ((rd_T108 l0 x4_1).f5)) ∧ w'.cell? (ad330.add ((x4_1).toNat * 6)) = some (.int .u8 ((rd_T108 l0 x4_1).f0)) ∧ w'.cell? ⟨(ad330.add ((x4_1).toNat * 6)).block, (ad330.add ((x4_1).toNat * 6)).off + 1, none⟩ = some (.int .u8 ((rd_T108 l0 x4_1).f1)) ∧ w'.cell? ⟨(ad330.add ((x4_1).toNat * 6)).block, (ad330.add ((x4_1).toNat * 6)).off + 2, none⟩ = some (.int .u8 ((rd_T108 l0 x4_1).f2)) ∧ w'.cell? ⟨(ad330.add ((x4_1).toNat * 6)).block, (ad330.add ((x4_1).toNat * 6)).off + 3, none⟩ = some (.int .u8 ((rd_T108 l0 x4_1).f3)) ∧ w'.cell? ⟨(ad330.add ((x4_1).toNat * 6)).block, (ad330.add ((x4_1).toNat * 6)).off + 4, none⟩ = some (.bool ((rd_T108 l0 x4_1).f4)) ∧ w'.cell? ⟨(ad330.add ((x4_1).toNat * 6)).block, (ad330.add ((x4_1).toNat * 6)).off + 5, none⟩ = some (.bool ((rd_T108 l0 x4_1).f5))) (ds := []) q15_0 (by kernel_rfl) rfl rfl ⟨((HB.out.cell (bL w _ hw330_0)).trans hw330_0), ((HB.out.cell (bL w _ hw330_1)).trans hw330_1), ((HB.out.cell (bL w _ hw330_2)).trans hw330_2), ((HB.out.cell (bL w _ hw330_3)).trans hw330_3), ((HB.out.cell (bL w _ hw330_4)).trans hw330_4), ((HB.out.cell (bL w _ hw330_5)).trans hw330_5), ((HB.out.cell (bL w _ hw331_0)).trans hw331_0), ((HB.out.cell (bL w _ hw331_1)).trans hw331_1), ((HB.out.cell (bL w _ hw331_2)).trans hw331_2), ((HB.out.cell (bL w _ hw331_3)).trans hw331_3), ((HB.out.cell (bL w _ hw331_4)).trans hw331_4), ((HB.out.cell (bL w _ hw331_5)).trans hw331_5), ((HB.out.cell (bL w _ hw332_0)).trans hw332_0), ((HB.out.cell (bL w _ hw332_1)).trans hw332_1), ((HB.out.cell (bL w _ hw332_2)).trans hw332_2), ((HB.out.cell (bL w _ hw332_3)).trans hw332_3), ((HB.out.cell (bL w _ hw332_4)).trans hw332_4), ((HB.out.cell (bL w _ hw332_5)).trans hw332_5)⟩ (fun hHeld => ?_); refine with_tabW rundlelaw18_nodes.tab5 rundlelaw18_nodes.bits5 (fun HT_ HW_ => ?_)
      generalize wr.drew = w5 at HO_3 HB hx330_0 hx330_1 hx330_2 hx330_3 hx330_4 hx330_5 hx331_0 hx331_1 hx331_2 hx331_3 hx331_4 hx331_5 hx332_0 hx332_1 hx332_2 hx332_3 hx332_4 hx332_5 hHeld ⊢; refine pure_ (i := 0) (N := some 11) (v := ?_) (a' := ?_) q15_1 rfl rfl (any_of HT_.out (by kernel_rfl)) (fun _ _ _ h => h) (Or.inl ⟨by rfl, ?_⟩) ?_ ?_; rotate_left
      · intro w'; go_simp; with_reducible rfl
      rotate_left
      · simp only [Act.put, s1, s2, s3, i64_w, i32_w]; rfl
      refine pure_ (i := 1) (N := some 12) (v := ?_) (a' := ?_) q15_2 rfl rfl (any_of HT_.out (by kernel_rfl)) (fun _ _ _ h => h) (Or.inl ⟨by rfl, ?_⟩) ?_ ?_; rotate_left
      · intro w'; go_simp; with_reducible rfl
      rotate_left
      · simp only [Act.put, s1, s2, s3, i64_w, i32_w]; rfl
      refine pure_ (i := 2) (N := some 13) (v := ?_) (a' := ?_) q15_3 rfl rfl (any_of HT_.out (by kernel_rfl)) (fun _ _ _ h => h) (Or.inl ⟨by rfl, ?_⟩) ?_ ?_; rotate_left
      · intro w'; go_simp; with_reducible rfl
      rotate_left
      · simp only [Act.put, s1, s2, s3, i64_w, i32_w]; rfl
      refine pure_ (i := 3) (N := some 14) (v := ?_) (a' := ?_) q15_4 rfl rfl (any_of HT_.out (by kernel_rfl)) (fun _ _ _ h => h) (Or.inl ⟨by rfl, ?_⟩) ?_ ?_; rotate_left
      · intro w'; go_simp; with_reducible rfl
      rotate_left
      · simp only [Act.put, s1, s2, s3, i64_w, i32_w]; rfl
      refine pure_ (i := 4) (N := some 15) (v := ?_) (a' := ?_) q15_5 rfl rfl (any_of HT_.out (by kernel_rfl)) (fun _ _ _ h => h) (Or.inl ⟨by rfl, ?_⟩) ?_ ?_; rotate_left
      · intro w'; go_simp; with_reducible rfl
      rotate_left
      · simp only [Act.put, s1, s2, s3, i64_w, i32_w]; rfl
      refine pure_ (i := 7) (N := some 18) (v := ?_) (a' := ?_) q15_6 rfl rfl (any_of HT_.out (by kernel_rfl)) (fun _ _ _ h => h) (Or.inl ⟨by rfl, ?_⟩) ?_ ?_; rotate_left
      · intro w'; go_simp; with_reducible rfl
      rotate_left
      · simp only [Act.put, s1, s2, s3, i64_w, i32_w]; rfl
      refine pure_ (i := 8) (N := some 19) (v := ?_) (a' := ?_) q15_7 rfl rfl (any_of HT_.out (by kernel_rfl)) (fun _ _ _ h => h) (Or.inl ⟨by rfl, ?_⟩) ?_ ?_; rotate_left
      · intro w'; go_simp; with_reducible rfl
      rotate_left
      · simp only [Act.put, s1, s2, s3, i64_w, i32_w]; rfl
      refine pure_ (i := 9) (N := some 20) (v := ?_) (a' := ?_) q15_8 rfl rfl (any_of HT_.out (by kernel_rfl)) (fun _ _ _ h => h) (Or.inl ⟨by rfl, ?_⟩) ?_ ?_; rotate_left
      · intro w'; go_simp; with_reducible rfl
      rotate_left
      · simp only [Act.put, s1, s2, s3, i64_w, i32_w]; rfl
      refine pure_ (i := 10) (N := some 21) (v := ?_) (a' := ?_) q15_9 rfl rfl (any_of HT_.out (by kernel_rfl)) (fun _ _ _ h => h) (Or.inl ⟨by rfl, ?_⟩) ?_ ?_; rotate_left
      · intro w'; go_simp; with_reducible rfl
      rotate_left
      · simp only [Act.put, s1, s2, s3, i64_w, i32_w]; rfl
      refine pure_ (i := 14) (N := some 25) (v := ?_) (a' := ?_) q15_10 rfl rfl (any_of HT_.out (by kernel_rfl)) (fun _ _ _ h => h) (Or.inl ⟨by rfl, ?_⟩) ?_ ?_; rotate_left
      · intro w'; go_simp; with_reducible rfl
      rotate_left
      · simp only [Act.put, s1, s2, s3, i64_w, i32_w]; rfl
      refine pure_ (i := 15) (N := some 26) (v := ?_) (a' := ?_) q15_11 rfl rfl (any_of HT_.out (by kernel_rfl)) (fun _ _ _ h => h) (Or.inl ⟨by rfl, ?_⟩) ?_ ?_; rotate_left
      · intro w'; go_simp; with_reducible rfl
      rotate_left
      · simp only [Act.put, s1, s2, s3, i64_w, i32_w]; rfl
      refine pure_ (i := 16) (N := some 27) (v := ?_) (a' := ?_) q15_12 rfl rfl (any_of HT_.out (by kernel_rfl)) (fun _ _ _ h => h) (Or.inl ⟨by rfl, ?_⟩) ?_ ?_; rotate_left
      · intro w'; go_simp; with_reducible rfl
      rotate_left
      · simp only [Act.put, s1, s2, s3, i64_w, i32_w]; rfl
      refine pure_ (i := 17) (N := some 28) (v := ?_) (a' := ?_) q15_13 rfl rfl (any_of HT_.out (by kernel_rfl)) (fun _ _ _ h => h) (Or.inl ⟨by rfl, ?_⟩) ?_ ?_; rotate_left
      · intro w'; go_simp; with_reducible rfl
      rotate_left
      · simp only [Act.put, s1, s2, s3, i64_w, i32_w]; rfl
      refine take_ (i := 5) (N := some 16) (v := ?_) (a' := ?_) q15_14 rfl rfl (take_ofW HT_.out HW_.out (by kernel_rfl)) (fun _ _ _ h => h) (Or.inl ⟨by rfl, ?_⟩) hHeld ?_ ?_; rotate_left
      · rintro w' ⟨s0, s1, s2, s3, s4, s5, s6, s7, s8, s9, s10, s11, s12, s13, s14, s15, s16, s17⟩; go_simp; with_reducible rfl
      rotate_left
      · simp only [Act.put, s1, s2, s3, i64_w, i32_w]; rfl
      refine pure_ (i := 6) (N := some 17) (v := ?_) (a' := ?_) q15_15 rfl rfl (any_of HT_.out (by kernel_rfl)) (fun _ _ _ h => h) (Or.inl ⟨by rfl, ?_⟩) ?_ ?_; rotate_left
      · intro w'; go_simp; with_reducible rfl
      rotate_left
      · simp only [Act.put, s1, s2, s3, i64_w, i32_w]; rfl
      refine take_ (i := 11) (N := some 22) (v := ?_) (a' := ?_) q15_16 rfl rfl (take_ofW HT_.out HW_.out (by kernel_rfl)) (fun _ _ _ h => h) (Or.inl ⟨by rfl, ?_⟩) hHeld ?_ ?_; rotate_left
      · rintro w' ⟨s0, s1, s2, s3, s4, s5, s6, s7, s8, s9, s10, s11, s12, s13, s14, s15, s16, s17⟩; go_simp; with_reducible rfl
      rotate_left
      · simp only [Act.put, s1, s2, s3, i64_w, i32_w]; rfl
      refine pure_ (i := 12) (N := some 23) (v := ?_) (a' := ?_) q15_17 rfl rfl (any_of HT_.out (by kernel_rfl)) (fun _ _ _ h => h) (Or.inl ⟨by rfl, ?_⟩) ?_ ?_; rotate_left
      · intro w'; go_simp; with_reducible rfl
      rotate_left
      · simp only [Act.put, s1, s2, s3, i64_w, i32_w]; rfl
      refine pure_ (i := 13) (N := some 24) (v := ?_) (a' := ?_) q15_18 rfl rfl (any_of HT_.out (by kernel_rfl)) (fun _ _ _ h => h) (Or.inl ⟨by rfl, ?_⟩) ?_ ?_; rotate_left
      · intro w'; go_simp; with_reducible rfl
      rotate_left
      · simp only [Act.put, s1, s2, s3, i64_w, i32_w]; rfl
      refine take_ (i := 18) (N := some 29) (v := ?_) (a' := ?_) q15_19 rfl rfl (take_ofW HT_.out HW_.out (by kernel_rfl)) (fun _ _ _ h => h) (Or.inl ⟨by rfl, ?_⟩) hHeld ?_ ?_; rotate_left
      · rintro w' ⟨s0, s1, s2, s3, s4, s5, s6, s7, s8, s9, s10, s11, s12, s13, s14, s15, s16, s17⟩; go_simp; with_reducible rfl
      rotate_left
      · simp only [Act.put, s1, s2, s3, i64_w, i32_w]; rfl
      refine pure_ (i := 19) (N := some 30) (v := ?_) (a' := ?_) q15_20 rfl rfl (any_of HT_.out (by kernel_rfl)) (fun _ _ _ h => h) (Or.inl ⟨by rfl, ?_⟩) ?_ ?_; rotate_left
      · intro w'; go_simp; with_reducible rfl
      rotate_left
      · simp only [Act.put, s1, s2, s3, i64_w, i32_w]; rfl
      refine pure_ (i := 20) (N := some 31) (v := ?_) (a' := ?_) q15_21 rfl rfl (any_of HT_.out (by kernel_rfl)) (fun _ _ _ h => h) (Or.inl ⟨by rfl, ?_⟩) ?_ ?_; rotate_left
      · intro w'; go_simp; with_reducible rfl
      rotate_left
      · simp only [Act.put, s1, s2, s3, i64_w, i32_w]; rfl
      refine pure_ (i := 21) (N := some 32) (v := ?_) (a' := ?_) q15_22 rfl rfl (any_of HT_.out (by kernel_rfl)) (fun _ _ _ h => h) (Or.inl ⟨by rfl, ?_⟩) ?_ ?_; rotate_left
      · intro w'; go_simp; with_reducible rfl
      rotate_left
      · simp only [Act.put, s1, s2, s3, i64_w, i32_w]; rfl
      refine one_ (i := 22) (N := some 33) q15_23 rfl rfl (one_of HT_.out (by kernel_rfl)) (by decide) (fun K hK => ?_); refine value_ (w1 := ?_) (v := ?_) (by rfl) rfl ?_ ?_; rotate_left 2
      ·
       go_simp; constructor
       · rfl
       rfl
      refine hK.out _ _ ⟨(World.cell?_alloc_lt _ _ _ (bL _ _ (((HB.out.cell (bL w _ hw330_0)).trans hw330_0)))).trans (((HB.out.cell (bL w _ hw330_0)).trans hw330_0)), (World.cell?_alloc_lt _ _ _ (bL _ _ (((HB.out.cell (bL w _ hw330_1)).trans hw330_1)))).trans (((HB.out.cell (bL w _ hw330_1)).trans hw330_1)), (World.cell?_alloc_lt _ _ _ (bL _ _ (((HB.out.cell (bL w _ hw330_2)).trans hw330_2)))).trans (((HB.out.cell (bL w _ hw330_2)).trans hw330_2)), (World.cell?_alloc_lt _ _ _ (bL _ _ (((HB.out.cell (bL w _ hw330_3)).trans hw330_3)))).trans (((HB.out.cell (bL w _ hw330_3)).trans hw330_3)), (World.cell?_alloc_lt _ _ _ (bL _ _ (((HB.out.cell (bL w _ hw330_4)).trans hw330_4)))).trans (((HB.out.cell (bL w _ hw330_4)).trans hw330_4)), (World.cell?_alloc_lt _ _ _ (bL _ _ (((HB.out.cell (bL w _ hw330_5)).trans hw330_5)))).trans (((HB.out.cell (bL w _ hw330_5)).trans hw330_5)), (World.cell?_alloc_lt _ _ _ (bL _ _ (((HB.out.cell (bL w _ hw331_0)).trans hw331_0)))).trans (((HB.out.cell (bL w _ hw331_0)).trans hw331_0)), (World.cell?_alloc_lt _ _ _ (bL _ _ (((HB.out.cell (bL w _ hw331_1)).trans hw331_1)))).trans (((HB.out.cell (bL w _ hw331_1)).trans hw331_1)), (World.cell?_alloc_lt _ _ _ (bL _ _ (((HB.out.cell (bL w _ hw331_2)).trans hw331_2)))).trans (((HB.out.cell (bL w _ hw331_2)).trans hw331_2)), (World.cell?_alloc_lt _ _ _ (bL _ _ (((HB.out.cell (bL w _ hw331_3)).trans hw331_3)))).trans (((HB.out.cell (bL w _ hw331_3)).trans hw331_3)), (World.cell?_alloc_lt _ _ _ (bL _ _ (((HB.out.cell (bL w _ hw331_4)).trans hw331_4)))).trans (((HB.out.cell (bL w _ hw331_4)).trans hw331_4)), (World.cell?_alloc_lt _ _ _ (bL _ _ (((HB.out.cell (bL w _ hw331_5)).trans hw331_5)))).trans (((HB.out.cell (bL w _ hw331_5)).trans hw331_5)), (World.cell?_alloc_lt _ _ _ (bL _ _ (((HB.out.cell (bL w _ hw332_0)).trans hw332_0)))).trans (((HB.out.cell (bL w _ hw332_0)).trans hw332_0)), (World.cell?_alloc_lt _ _ _ (bL _ _ (((HB.out.cell (bL w _ hw332_1)).trans hw332_1)))).trans (((HB.out.cell (bL w _ hw332_1)).trans hw332_1)), (World.cell?_alloc_lt _ _ _ (bL _ _ (((HB.out.cell (bL w _ hw332_2)).trans hw332_2)))).trans (((HB.out.cell (bL w _ hw332_2)).trans hw332_2)), (World.cell?_alloc_lt _ _ _ (bL _ _ (((HB.out.cell (bL w _ hw332_3)).trans hw332_3)))).trans (((HB.out.cell (bL w _ hw332_3)).trans hw332_3)), (World.cell?_alloc_lt _ _ _ (bL _ _ (((HB.out.cell (bL w _ hw332_4)).trans hw332_4)))).trans (((HB.out.cell (bL w _ hw332_4)).trans hw332_4)), (World.cell?_alloc_lt _ _ _ (bL _ _ (((HB.out.cell (bL w _ hw332_5)).trans hw332_5)))).trans (((HB.out.cell (bL w _ hw332_5)).trans hw332_5))⟩ (fun hHeld => ?_); clear hK K; refine norm_ (a' := ?_) ?_ ?_; rotate_left
      · show Act.put _ (some 33) _ = _; simp only [Act.put, s1, s2, s3, i64_w, i32_w]; rfl
      refine one_ (i := 23) (N := some 34) q15_24 rfl rfl (one_of HT_.out (by kernel_rfl)) (by decide) (fun K hK => ?_); refine Kd.R_append_step k144 (w0 := w) w.heap.size (by rfl) (.tmp 11) (.tmp 33) 97 144 (.agg #[(.int .i64 0), (.int .i64 0), (.int .i64 0)]) 24 rfl Try.underlying97 info144 rfl (by decide) (by omega) u3 x3_1 (⟨wrap64 ((rd_T108 l0 x4_1).f1), wrap64 (16 * (wrap64 ((rd_T108 l0 x4_1).f2))), Int.tmod (wrap64 ((rd_T108 l0 x4_1).f3)) 70⟩ : S144) [.int .i64 (wrap64 ((rd_T108 l0 x4_1).f1)), .int .i64 (wrap64 (16 * (wrap64 ((rd_T108 l0 x4_1).f2)))), .int .i64 (Int.tmod (wrap64 ((rd_T108 l0 x4_1).f3)) 70)] (fun _ => True) (fun _ => False) rfl rfl ?aP (fun _ hk => hk.elim) ?aF ?aO ?aB ?aS ?aL ?_; (case aP => exact k144_mkM _ _ _ (⟨wrap64 ((rd_T108 l0 x4_1).f1), wrap64 (16 * (wrap64 ((rd_T108 l0 x4_1).f2))), Int.tmod (wrap64 ((rd_T108 l0 x4_1).f3)) 70⟩ : S144))
      (case aB => exact (by repeat (first | (with_reducible first | exact HB.out | apply wA | apply wN | apply wD) | exact HB.out)))
      (case aF => exact (fun _ _ => trivial))
      (case aO => exact (by (with_reducible repeat (first | apply rA | apply rN | apply rD)); exact HO_3.out))
      (case aS => exact (below_size (by repeat (first | (with_reducible first | exact HB.out | apply wA | apply wN | apply wD) | exact HB.out))))
      (case aL => have := LMc4.out; omega)
      intro v334 w6 ho hb hg hat; rw [← Ny333.out] at ho; have n0_ := K0 (hb); have n1_ := K0 (ho); clear HB HO_3; have HB := n0_; have HO335 := n1_; clear n0_ n1_ ho hb hg hat; refine hK.out _ _ ⟨((HB.out.cell (bL w _ hw330_0)).trans hw330_0), ((HB.out.cell (bL w _ hw330_1)).trans hw330_1), ((HB.out.cell (bL w _ hw330_2)).trans hw330_2), ((HB.out.cell (bL w _ hw330_3)).trans hw330_3), ((HB.out.cell (bL w _ hw330_4)).trans hw330_4), ((HB.out.cell (bL w _ hw330_5)).trans hw330_5), ((HB.out.cell (bL w _ hw331_0)).trans hw331_0), ((HB.out.cell (bL w _ hw331_1)).trans hw331_1), ((HB.out.cell (bL w _ hw331_2)).trans hw331_2), ((HB.out.cell (bL w _ hw331_3)).trans hw331_3), ((HB.out.cell (bL w _ hw331_4)).trans hw331_4), ((HB.out.cell (bL w _ hw331_5)).trans hw331_5), ((HB.out.cell (bL w _ hw332_0)).trans hw332_0), ((HB.out.cell (bL w _ hw332_1)).trans hw332_1), ((HB.out.cell (bL w _ hw332_2)).trans hw332_2), ((HB.out.cell (bL w _ hw332_3)).trans hw332_3), ((HB.out.cell (bL w _ hw332_4)).trans hw332_4), ((HB.out.cell (bL w _ hw332_5)).trans hw332_5)⟩ (fun hHeld => ?_); clear hK K; refine norm_ (a' := ?_) ?_ ?_; rotate_left
      · show Act.put _ (some 34) _ = _; simp only [Act.put, s1, s2, s3, i64_w, i32_w]; rfl
      refine pure_ (i := 24) (N := some 3) (v := ?_) (a' := ?_) q15_25 rfl rfl (any_of HT_.out (by kernel_rfl)) (fun _ _ _ h => h) (Or.inl ⟨by rfl, ?_⟩) ?_ ?_; rotate_left
      · intro w'; go_simp; with_reducible rfl
      rotate_left
      · simp only [Act.put, s1, s2, s3, i64_w, i32_w]; rfl
      refine done_ (done_of HT_.out (by kernel_rfl)) ?_; try go_wp2
      go_roundg k1
      case measure => have := HK1.out; omega
      case rel => exact ⟨(y333), (wrap64 (x4_1 + 1)), (by first | rfl | (simp; done) | (simp [*]; done)), H', ⟨by have := HK1.out; omega⟩, ⟨by (with_reducible repeat (first | apply rA | apply rN | apply rD)); exact HO335.out⟩, ⟨by repeat (first | (with_reducible first | exact HB.out | apply wA | apply wN | apply wD) | exact HB.out)⟩⟩
     rw [if_neg c4] at H; exact absurd H (by simp)
    rw [if_neg c3] at H; exact absurd H (by simp)
   rw [if_neg c2] at H; have c2b0 : decide (x4_1 < (l0.length : Int)) = false := dF c2; clear c2; obtain rfl := Option.some.inj H; go_wp2
   go_ret; exact ⟨_, by first | rfl | (simp [errW_none, errW_some] <;> rfl) | (simp [*, errW_none, errW_some] <;> rfl), by (with_reducible repeat (first | apply rA | apply rN | apply rD)); exact HO_3.out, by repeat (first | (with_reducible first | exact HB.out | apply wA | apply wN | apply wD) | exact HB.out)⟩
/-! ### rundlelaw18_PlanEmpties: function 9 -/
mutual
def rundlelaw18_PlanEmpties.j0 : Nat → List (S108) → Int → Bool → Option (Bool)
 | 0, _, _, _ => none
 | k + 1, x0, x1, x21 => if x21 = true then ((rundlelaw18_awake.f k).bind fun t337 => (some t337)) else ((rundlelaw18_row.f k x0).bind fun bt338 => (if bt338.2 = true then ((plan_Empties.f k bt338.1 x1).bind fun t342 => ((rundlelaw18_nodes.f k x0).bind fun t345 => ((rundleref18_Empties.f k t345 x1).bind fun t348 => (rundlelaw18_PlanEmpties.l0 k t342 t348 0)))) else (some false)))
def rundlelaw18_PlanEmpties.l0 : Nat → List Bool → List Bool → Int → Option (Bool)
 | 0, _, _, _ => none
 | k + 1, x7, x8, x9 => if x9 < (x8.length : Int) then (if x9 ≥ (x7.length : Int) then (some false) else (if 0 ≤ x9 then (if x9 < (x7.length : Int) then (if ((rdOf false x7 x9) != (rdOf false x8 x9)) = true then (some false) else (rundlelaw18_PlanEmpties.l0 k x7 x8 (wrap64 (x9 + 1)))) else (none)) else (none))) else (some ((x7.length : Int) == (x8.length : Int)))
end
def rundlelaw18_PlanEmpties.f (k : Nat) (l0 : List (S108)) (a1 : Int) : Option (Bool) := (rundlelaw18_awake.f k).bind fun t336 => (if t336 = true then (if (l0.length : Int) < 1 then (rundlelaw18_PlanEmpties.j0 k l0 a1 true) else (rundlelaw18_PlanEmpties.j0 k l0 a1 (decide ((l0.length : Int) > 20)))) else (rundlelaw18_PlanEmpties.j0 k l0 a1 true))
set_option maxHeartbeats 8000000 in
set_option maxRecDepth 100000 in
theorem rundlelaw18_PlanEmpties.calls (k : Nat) (A0 : Option Addr) (c0 : Nat) (l0 : List (S108)) (a1 : Int) (r : Bool) (w : World) (hr0 : Kd.C k108 w A0 l0.length l0) (hc0 : l0.length ≤ c0) (h : rundlelaw18_PlanEmpties.f k l0 a1 = some r) (hrt : r = true) :
  Calls Try.prog 9 #[.slice A0 l0.length c0, .int .i64 a1] w fun e w' => e = .returned (.bool r) ∧ Below w.heap.size w w' := by
 have HR0 := K0 hr0
 have HC0 := K0 hc0
 clear hr0 hc0
 have HB := K0 (Below.refl w.heap.size w)
 have H : ((rundlelaw18_awake.f k).bind fun t336 => (if t336 = true then (if (l0.length : Int) < 1 then (rundlelaw18_PlanEmpties.j0 k l0 a1 true) else (rundlelaw18_PlanEmpties.j0 k l0 a1 (decide ((l0.length : Int) > 20)))) else (rundlelaw18_PlanEmpties.j0 k l0 a1 true))) = some r := h
 clear h
 have HRT := K0 hrt
 clear hrt
 have HC3 := K0 H
 clear H
 go_enter Try.func9, Try.ntmps9
 go_upto_region 1 with (fail)
 repeat (go_quiet (fail); go_upto_region 1 with (fail))
 go_cut [21] (fun v21 wc => ∃ (kq : Nat) (x21_2 : Bool), v21 = .bool x21_2 ∧ Aside0 (rundlelaw18_PlanEmpties.j0 kq l0 a1 x21_2 = some r) ∧ Aside0 (kq ≤ k) ∧ Aside0 (Below w.heap.size w wc))
 case first =>
  have H := HC3.out
  clear HC3
  replace H := Option.bind_eq_some_iff.mp H
  obtain ⟨t336, A40, H⟩ := H
  replace H : (if t336 = true then (if (l0.length : Int) < 1 then (rundlelaw18_PlanEmpties.j0 k l0 a1 true) else (rundlelaw18_PlanEmpties.j0 k l0 a1 (decide ((l0.length : Int) > 20)))) else (rundlelaw18_PlanEmpties.j0 k l0 a1 true)) = some r := H
  have A4 := K0 A40
  clear A40
  by_cases c5 : t336 = true
  ·
   subst c5; have H1 : (if (l0.length : Int) < 1 then (rundlelaw18_PlanEmpties.j0 k l0 a1 true) else (rundlelaw18_PlanEmpties.j0 k l0 a1 (decide ((l0.length : Int) > 20)))) = some r := by rw [if_pos rfl] at H; exact H
   clear H; have H := H1; clear H1; by_cases c6 : (l0.length : Int) < 1
   ·
    rw [if_pos c6] at H; have c6b0 : decide ((l0.length : Int) < 1) = true := dT c6; have c6b1 : decide (l0.length < 1) = true := dT (by omega); clear c6; (first | rw [c6b0] | (simp only [i64_w, i32_w]; rw [c6b0]) | skip)
    have H' := K0 H; clear H; go_wp2_with (first | (go_at_call 32; (with_reducible refine (rundlelaw18_awake.calls k  true _ A4.out).mono ?_); rintro e w7 ⟨rfl, hb⟩; have n0_ := K0 (below_step (by repeat (first | (with_reducible first | exact HB.out | apply wA | apply wN | apply wD) | exact HB.out)) hb); clear HB; have HB := n0_; clear n0_; (try clear hb); (try clear hb2); (try clear hk); (try clear hi)))
    repeat (go_quiet (first | (go_at_call 32; (with_reducible refine (rundlelaw18_awake.calls k  true _ A4.out).mono ?_); rintro e w7 ⟨rfl, hb⟩; have n0_ := K0 (below_step (by repeat (first | (with_reducible first | exact HB.out | apply wA | apply wN | apply wD) | exact HB.out)) hb); clear HB; have HB := n0_; clear n0_; (try clear hb); (try clear hb2); (try clear hk); (try clear hi))); try go_wp2_with (first | (go_at_call 32; (with_reducible refine (rundlelaw18_awake.calls k  true _ A4.out).mono ?_); rintro e w7 ⟨rfl, hb⟩; have n0_ := K0 (below_step (by repeat (first | (with_reducible first | exact HB.out | apply wA | apply wN | apply wD) | exact HB.out)) hb); clear HB; have HB := n0_; clear n0_; (try clear hb); (try clear hb2); (try clear hk); (try clear hi))))
    go_meet
    case rel => exact ⟨_, (true), (by first | rfl | (simp; done) | (simp [*]; done)), H', ⟨by first | omega | exact Nat.le_refl _⟩, ⟨by repeat (first | (with_reducible first | exact HB.out | apply wA | apply wN | apply wD) | exact HB.out)⟩⟩
   rw [if_neg c6] at H; have c6b0 : decide ((l0.length : Int) < 1) = false := dF c6; have c6b1 : decide (l0.length < 1) = false := dF (by omega); clear c6; (first | rw [c6b0] | (simp only [i64_w, i32_w]; rw [c6b0]) | skip)
   have H' := K0 H; clear H; go_wp2_with (first | (go_at_call 32; (with_reducible refine (rundlelaw18_awake.calls k  true _ A4.out).mono ?_); rintro e w8 ⟨rfl, hb⟩; have n0_ := K0 (below_step (by repeat (first | (with_reducible first | exact HB.out | apply wA | apply wN | apply wD) | exact HB.out)) hb); clear HB; have HB := n0_; clear n0_; (try clear hb); (try clear hb2); (try clear hk); (try clear hi)))
   repeat (go_quiet (first | (go_at_call 32; (with_reducible refine (rundlelaw18_awake.calls k  true _ A4.out).mono ?_); rintro e w8 ⟨rfl, hb⟩; have n0_ := K0 (below_step (by repeat (first | (with_reducible first | exact HB.out | apply wA | apply wN | apply wD) | exact HB.out)) hb); clear HB; have HB := n0_; clear n0_; (try clear hb); (try clear hb2); (try clear hk); (try clear hi))); try go_wp2_with (first | (go_at_call 32; (with_reducible refine (rundlelaw18_awake.calls k  true _ A4.out).mono ?_); rintro e w8 ⟨rfl, hb⟩; have n0_ := K0 (below_step (by repeat (first | (with_reducible first | exact HB.out | apply wA | apply wN | apply wD) | exact HB.out)) hb); clear HB; have HB := n0_; clear n0_; (try clear hb); (try clear hb2); (try clear hk); (try clear hi))))
   go_meet
   case rel => exact ⟨_, (decide ((l0.length : Int) > 20)), (by first | rfl | (simp; done) | (simp [*]; done)), H', ⟨by first | omega | exact Nat.le_refl _⟩, ⟨by repeat (first | (with_reducible first | exact HB.out | apply wA | apply wN | apply wD) | exact HB.out)⟩⟩
  replace c5 := Bool.eq_false_iff.mpr c5
  subst c5
  have H1 : (rundlelaw18_PlanEmpties.j0 k l0 a1 true) = some r := by rw [if_neg (show ¬ (false = true) by decide)] at H; exact H
  clear H
  have H := H1
  clear H1
  have H' := K0 H
  clear H
  go_wp2_with (first | (go_at_call 32; (with_reducible refine (rundlelaw18_awake.calls k  false _ A4.out).mono ?_); rintro e w9 ⟨rfl, hb⟩; have n0_ := K0 (below_step (by repeat (first | (with_reducible first | exact HB.out | apply wA | apply wN | apply wD) | exact HB.out)) hb); clear HB; have HB := n0_; clear n0_; (try clear hb); (try clear hb2); (try clear hk); (try clear hi)))
  repeat (go_quiet (first | (go_at_call 32; (with_reducible refine (rundlelaw18_awake.calls k  false _ A4.out).mono ?_); rintro e w9 ⟨rfl, hb⟩; have n0_ := K0 (below_step (by repeat (first | (with_reducible first | exact HB.out | apply wA | apply wN | apply wD) | exact HB.out)) hb); clear HB; have HB := n0_; clear n0_; (try clear hb); (try clear hb2); (try clear hk); (try clear hi))); try go_wp2_with (first | (go_at_call 32; (with_reducible refine (rundlelaw18_awake.calls k  false _ A4.out).mono ?_); rintro e w9 ⟨rfl, hb⟩; have n0_ := K0 (below_step (by repeat (first | (with_reducible first | exact HB.out | apply wA | apply wN | apply wD) | exact HB.out)) hb); clear HB; have HB := n0_; clear n0_; (try clear hb); (try clear hb2); (try clear hk); (try clear hi))))
  go_meet
  case rel => exact ⟨_, (true), (by first | rfl | (simp; done) | (simp [*]; done)), H', ⟨by first | omega | exact Nat.le_refl _⟩, ⟨by repeat (first | (with_reducible first | exact HB.out | apply wA | apply wN | apply wD) | exact HB.out)⟩⟩
 case rest =>
  clear HC3
  try clear p2
  try clear c5
  try clear c6
  try clear c6b0
  try clear c6b1
  try clear c9
  obtain ⟨kq, x21_2, rfl, HA, HJ2, HB⟩ := hcut
  cases kq with
  | zero => exact absurd HA.out (by simp [rundlelaw18_PlanEmpties.j0])
  | succ kj2 =>
   have H := HA.out; clear HA; simp only [rundlelaw18_PlanEmpties.j0] at H; by_cases c10 : x21_2 = true
   ·
    subst c10; have H1 : ((rundlelaw18_awake.f kj2).bind fun t337 => (some t337)) = some r := by rw [if_pos rfl] at H; exact H
    clear H; have H := H1; clear H1; replace H := Option.bind_eq_some_iff.mp H; obtain ⟨t337, A110, H⟩ := H; replace H : (some t337) = some r := H; have A11 := K0 A110; clear A110; obtain rfl := Option.some.inj H; go_wp2_with (first | (go_at_call 32; (with_reducible refine (rundlelaw18_awake.calls kj2  t337 _ A11.out).mono ?_); rintro e w12 ⟨rfl, hb⟩; have n0_ := K0 (below_step (by repeat (first | (with_reducible first | exact HB.out | apply wA | apply wN | apply wD) | exact HB.out)) hb); clear HB; have HB := n0_; clear n0_; (try clear hb); (try clear hb2); (try clear hk); (try clear hi)))
    repeat (go_quiet (first | (go_at_call 32; (with_reducible refine (rundlelaw18_awake.calls kj2  t337 _ A11.out).mono ?_); rintro e w12 ⟨rfl, hb⟩; have n0_ := K0 (below_step (by repeat (first | (with_reducible first | exact HB.out | apply wA | apply wN | apply wD) | exact HB.out)) hb); clear HB; have HB := n0_; clear n0_; (try clear hb); (try clear hb2); (try clear hk); (try clear hi))); try go_wp2_with (first | (go_at_call 32; (with_reducible refine (rundlelaw18_awake.calls kj2  t337 _ A11.out).mono ?_); rintro e w12 ⟨rfl, hb⟩; have n0_ := K0 (below_step (by repeat (first | (with_reducible first | exact HB.out | apply wA | apply wN | apply wD) | exact HB.out)) hb); clear HB; have HB := n0_; clear n0_; (try clear hb); (try clear hb2); (try clear hk); (try clear hi))))
    go_ret; exact ⟨by first | rfl | (simp [errW_none, errW_some] <;> rfl) | (simp [*, errW_none, errW_some] <;> rfl), by repeat (first | (with_reducible first | exact HB.out | apply wA | apply wN | apply wD) | exact HB.out)⟩
   replace c10 := Bool.eq_false_iff.mpr c10; subst c10; have H1 : ((rundlelaw18_row.f kj2 l0).bind fun bt338 => (if bt338.2 = true then ((plan_Empties.f kj2 bt338.1 a1).bind fun t342 => ((rundlelaw18_nodes.f kj2 l0).bind fun t345 => ((rundleref18_Empties.f kj2 t345 a1).bind fun t348 => (rundlelaw18_PlanEmpties.l0 kj2 t342 t348 0)))) else (some false))) = some r := by rw [if_neg (show ¬ (false = true) by decide)] at H; exact H
   clear H; have H := H1; clear H1; replace H := Option.bind_eq_some_iff.mp H; obtain ⟨⟨t338, t339⟩, A130, H⟩ := H; replace H : (if t339 = true then ((plan_Empties.f kj2 t338 a1).bind fun t342 => ((rundlelaw18_nodes.f kj2 l0).bind fun t345 => ((rundleref18_Empties.f kj2 t345 a1).bind fun t348 => (rundlelaw18_PlanEmpties.l0 kj2 t342 t348 0)))) else (some false)) = some r := H; have A13 := K0 A130; clear A130; by_cases c14 : t339 = true
   ·
    subst c14; have H1 : ((plan_Empties.f kj2 t338 a1).bind fun t342 => ((rundlelaw18_nodes.f kj2 l0).bind fun t345 => ((rundleref18_Empties.f kj2 t345 a1).bind fun t348 => (rundlelaw18_PlanEmpties.l0 kj2 t342 t348 0)))) = some r := by rw [if_pos rfl] at H; exact H
    clear H; have H := H1; clear H1; replace H := Option.bind_eq_some_iff.mp H; obtain ⟨t342, A150, H⟩ := H; replace H : ((rundlelaw18_nodes.f kj2 l0).bind fun t345 => ((rundleref18_Empties.f kj2 t345 a1).bind fun t348 => (rundlelaw18_PlanEmpties.l0 kj2 t342 t348 0))) = some r := H; have A15 := K0 A150; clear A150; replace H := Option.bind_eq_some_iff.mp H; obtain ⟨t345, A160, H⟩ := H; replace H : ((rundleref18_Empties.f kj2 t345 a1).bind fun t348 => (rundlelaw18_PlanEmpties.l0 kj2 t342 t348 0)) = some r := H; have A16 := K0 A160; clear A160; replace H := Option.bind_eq_some_iff.mp H; obtain ⟨t348, A170, H⟩ := H; replace H : (rundlelaw18_PlanEmpties.l0 kj2 t342 t348 0) = some r := H; have A17 := K0 A170; clear A170; have H' := K0 H; clear H; go_wp2_with (first | (go_at_call 33; (with_reducible refine (rundlelaw18_row.calls kj2 _ _ l0 t338 true _ ?side1 ?side2 A13.out).mono ?_); (case side1 => repeat (first | exact (Kd.C_below HR0.out HB.out) | (with_reducible refine Kd.C_alloc ?_ _) | (with_reducible refine Kd.C_drewN ?_ _) | (with_reducible refine Kd.C_drew ?_))); (case side2 => exact HC0.out); rintro e w18 ⟨v340, rfl, ho0, hb⟩; have n0_ := K0 (Kd.R_lower ho0 (below_size (by repeat (first | (with_reducible first | exact HB.out | apply wA | apply wN | apply wD) | exact HB.out)))); have n1_ := K0 (below_step (by repeat (first | (with_reducible first | exact HB.out | apply wA | apply wN | apply wD) | exact HB.out)) hb); clear HB; have HO341 := n0_; have HB := n1_; clear n0_ n1_; (try clear hb); (try clear hb2); (try clear hk); (try clear hi); (try clear ho0); obtain ⟨Ao19, co19, eo19⟩ := Kd.R_slice HO341.out; subst eo19) | (go_at_call 45; (with_reducible refine (plan_Empties.calls kj2 _ _ t338 a1 t342 _ ?side1 ?side2 A15.out).mono ?_); (case side1 => repeat (first | exact (Kd.R_reads' HO341.out).2.2 | (with_reducible refine Kd.C_alloc ?_ _) | (with_reducible refine Kd.C_drewN ?_ _) | (with_reducible refine Kd.C_drew ?_))); (case side2 => exact (Kd.R_reads' HO341.out).2.1); rintro e w20 ⟨v343, rfl, ho0, hb⟩; have n0_ := K0 (Kd.R_elder' (by (with_reducible repeat (first | apply rA | apply rN | apply rD)); exact HO341.out) (Kd.R_base ho0) hb); have n1_ := K0 (Kd.R_lower ho0 (below_size (by repeat (first | (with_reducible first | exact HB.out | apply wA | apply wN | apply wD) | exact HB.out)))); have n2_ := K0 (below_step (by repeat (first | (with_reducible first | exact HB.out | apply wA | apply wN | apply wD) | exact HB.out)) hb); clear HO341; clear HB; have HO341 := n0_; have HO344 := n1_; have HB := n2_; clear n0_ n1_ n2_; (try clear hb); (try clear hb2); (try clear hk); (try clear hi); (try clear ho0)) | (go_at_call 47; (with_reducible refine (rundlelaw18_nodes.calls kj2 _ _ l0 t345 _ ?side1 ?side2 A16.out).mono ?_); (case side1 => repeat (first | exact (Kd.C_below HR0.out HB.out) | (with_reducible refine Kd.C_alloc ?_ _) | (with_reducible refine Kd.C_drewN ?_ _) | (with_reducible refine Kd.C_drew ?_))); (case side2 => exact HC0.out); rintro e w21 ⟨v346, rfl, ho0, hb⟩; have n0_ := K0 (rB (by (with_reducible repeat (first | apply rA | apply rN | apply rD)); exact HO341.out) hb); have n1_ := K0 (rB (by (with_reducible repeat (first | apply rA | apply rN | apply rD)); exact HO344.out) hb); have n2_ := K0 (Kd.R_lower ho0 (below_size (by repeat (first | (with_reducible first | exact HB.out | apply wA | apply wN | apply wD) | exact HB.out)))); have n3_ := K0 (below_step (by repeat (first | (with_reducible first | exact HB.out | apply wA | apply wN | apply wD) | exact HB.out)) hb); clear HO341; clear HO344; clear HB; have HO341 := n0_; have HO344 := n1_; have HO347 := n2_; have HB := n3_; clear n0_ n1_ n2_ n3_; (try clear hb); (try clear hb2); (try clear hk); (try clear hi); (try clear ho0); obtain ⟨Ao22, co22, eo22⟩ := Kd.R_slice HO347.out; subst eo22) | (go_at_call 46; (with_reducible refine (rundleref18_Empties.calls kj2 _ _ t345 a1 t348 _ ?side1 ?side2 A17.out).mono ?_); (case side1 => repeat (first | exact (Kd.R_reads' HO347.out).2.2 | (with_reducible refine Kd.C_alloc ?_ _) | (with_reducible refine Kd.C_drewN ?_ _) | (with_reducible refine Kd.C_drew ?_))); (case side2 => exact (Kd.R_reads' HO347.out).2.1); rintro e w23 ⟨v349, rfl, ho0, hb⟩; have n0_ := K0 (Kd.R_elder' (by (with_reducible repeat (first | apply rA | apply rN | apply rD)); exact HO341.out) (Kd.R_base ho0) hb); have n1_ := K0 (Kd.R_elder' (by (with_reducible repeat (first | apply rA | apply rN | apply rD)); exact HO344.out) (Kd.R_base ho0) hb); have n2_ := K0 (rB (by (with_reducible repeat (first | apply rA | apply rN | apply rD)); exact HO347.out) hb); have n3_ := K0 (Kd.R_lower (Kd.R_new' ho0 (Kd.R_lt (by (with_reducible repeat (first | apply rA | apply rN | apply rD)); exact HO344.out))) (below_size (by repeat (first | (with_reducible first | exact HB.out | apply wA | apply wN | apply wD) | exact HB.out)))); have n4_ := K0 (below_step (by repeat (first | (with_reducible first | exact HB.out | apply wA | apply wN | apply wD) | exact HB.out)) hb); clear HO341; clear HO344; clear HO347; clear HB; have HO341 := n0_; have HO344 := n1_; have HO347 := n2_; have HO350 := n3_; have HB := n4_; clear n0_ n1_ n2_ n3_ n4_; (try clear hb); (try clear hb2); (try clear hk); (try clear hi); (try clear ho0)))
    repeat (go_quiet (first | (go_at_call 33; (with_reducible refine (rundlelaw18_row.calls kj2 _ _ l0 t338 true _ ?side1 ?side2 A13.out).mono ?_); (case side1 => repeat (first | exact (Kd.C_below HR0.out HB.out) | (with_reducible refine Kd.C_alloc ?_ _) | (with_reducible refine Kd.C_drewN ?_ _) | (with_reducible refine Kd.C_drew ?_))); (case side2 => exact HC0.out); rintro e w18 ⟨v340, rfl, ho0, hb⟩; have n0_ := K0 (Kd.R_lower ho0 (below_size (by repeat (first | (with_reducible first | exact HB.out | apply wA | apply wN | apply wD) | exact HB.out)))); have n1_ := K0 (below_step (by repeat (first | (with_reducible first | exact HB.out | apply wA | apply wN | apply wD) | exact HB.out)) hb); clear HB; have HO341 := n0_; have HB := n1_; clear n0_ n1_; (try clear hb); (try clear hb2); (try clear hk); (try clear hi); (try clear ho0); obtain ⟨Ao19, co19, eo19⟩ := Kd.R_slice HO341.out; subst eo19) | (go_at_call 45; (with_reducible refine (plan_Empties.calls kj2 _ _ t338 a1 t342 _ ?side1 ?side2 A15.out).mono ?_); (case side1 => repeat (first | exact (Kd.R_reads' HO341.out).2.2 | (with_reducible refine Kd.C_alloc ?_ _) | (with_reducible refine Kd.C_drewN ?_ _) | (with_reducible refine Kd.C_drew ?_))); (case side2 => exact (Kd.R_reads' HO341.out).2.1); rintro e w20 ⟨v343, rfl, ho0, hb⟩; have n0_ := K0 (Kd.R_elder' (by (with_reducible repeat (first | apply rA | apply rN | apply rD)); exact HO341.out) (Kd.R_base ho0) hb); have n1_ := K0 (Kd.R_lower ho0 (below_size (by repeat (first | (with_reducible first | exact HB.out | apply wA | apply wN | apply wD) | exact HB.out)))); have n2_ := K0 (below_step (by repeat (first | (with_reducible first | exact HB.out | apply wA | apply wN | apply wD) | exact HB.out)) hb); clear HO341; clear HB; have HO341 := n0_; have HO344 := n1_; have HB := n2_; clear n0_ n1_ n2_; (try clear hb); (try clear hb2); (try clear hk); (try clear hi); (try clear ho0)) | (go_at_call 47; (with_reducible refine (rundlelaw18_nodes.calls kj2 _ _ l0 t345 _ ?side1 ?side2 A16.out).mono ?_); (case side1 => repeat (first | exact (Kd.C_below HR0.out HB.out) | (with_reducible refine Kd.C_alloc ?_ _) | (with_reducible refine Kd.C_drewN ?_ _) | (with_reducible refine Kd.C_drew ?_))); (case side2 => exact HC0.out); rintro e w21 ⟨v346, rfl, ho0, hb⟩; have n0_ := K0 (rB (by (with_reducible repeat (first | apply rA | apply rN | apply rD)); exact HO341.out) hb); have n1_ := K0 (rB (by (with_reducible repeat (first | apply rA | apply rN | apply rD)); exact HO344.out) hb); have n2_ := K0 (Kd.R_lower ho0 (below_size (by repeat (first | (with_reducible first | exact HB.out | apply wA | apply wN | apply wD) | exact HB.out)))); have n3_ := K0 (below_step (by repeat (first | (with_reducible first | exact HB.out | apply wA | apply wN | apply wD) | exact HB.out)) hb); clear HO341; clear HO344; clear HB; have HO341 := n0_; have HO344 := n1_; have HO347 := n2_; have HB := n3_; clear n0_ n1_ n2_ n3_; (try clear hb); (try clear hb2); (try clear hk); (try clear hi); (try clear ho0); obtain ⟨Ao22, co22, eo22⟩ := Kd.R_slice HO347.out; subst eo22) | (go_at_call 46; (with_reducible refine (rundleref18_Empties.calls kj2 _ _ t345 a1 t348 _ ?side1 ?side2 A17.out).mono ?_); (case side1 => repeat (first | exact (Kd.R_reads' HO347.out).2.2 | (with_reducible refine Kd.C_alloc ?_ _) | (with_reducible refine Kd.C_drewN ?_ _) | (with_reducible refine Kd.C_drew ?_))); (case side2 => exact (Kd.R_reads' HO347.out).2.1); rintro e w23 ⟨v349, rfl, ho0, hb⟩; have n0_ := K0 (Kd.R_elder' (by (with_reducible repeat (first | apply rA | apply rN | apply rD)); exact HO341.out) (Kd.R_base ho0) hb); have n1_ := K0 (Kd.R_elder' (by (with_reducible repeat (first | apply rA | apply rN | apply rD)); exact HO344.out) (Kd.R_base ho0) hb); have n2_ := K0 (rB (by (with_reducible repeat (first | apply rA | apply rN | apply rD)); exact HO347.out) hb); have n3_ := K0 (Kd.R_lower (Kd.R_new' ho0 (Kd.R_lt (by (with_reducible repeat (first | apply rA | apply rN | apply rD)); exact HO344.out))) (below_size (by repeat (first | (with_reducible first | exact HB.out | apply wA | apply wN | apply wD) | exact HB.out)))); have n4_ := K0 (below_step (by repeat (first | (with_reducible first | exact HB.out | apply wA | apply wN | apply wD) | exact HB.out)) hb); clear HO341; clear HO344; clear HO347; clear HB; have HO341 := n0_; have HO344 := n1_; have HO347 := n2_; have HO350 := n3_; have HB := n4_; clear n0_ n1_ n2_ n3_ n4_; (try clear hb); (try clear hb2); (try clear hk); (try clear hi); (try clear ho0))); try go_wp2_with (first | (go_at_call 33; (with_reducible refine (rundlelaw18_row.calls kj2 _ _ l0 t338 true _ ?side1 ?side2 A13.out).mono ?_); (case side1 => repeat (first | exact (Kd.C_below HR0.out HB.out) | (with_reducible refine Kd.C_alloc ?_ _) | (with_reducible refine Kd.C_drewN ?_ _) | (with_reducible refine Kd.C_drew ?_))); (case side2 => exact HC0.out); rintro e w18 ⟨v340, rfl, ho0, hb⟩; have n0_ := K0 (Kd.R_lower ho0 (below_size (by repeat (first | (with_reducible first | exact HB.out | apply wA | apply wN | apply wD) | exact HB.out)))); have n1_ := K0 (below_step (by repeat (first | (with_reducible first | exact HB.out | apply wA | apply wN | apply wD) | exact HB.out)) hb); clear HB; have HO341 := n0_; have HB := n1_; clear n0_ n1_; (try clear hb); (try clear hb2); (try clear hk); (try clear hi); (try clear ho0); obtain ⟨Ao19, co19, eo19⟩ := Kd.R_slice HO341.out; subst eo19) | (go_at_call 45; (with_reducible refine (plan_Empties.calls kj2 _ _ t338 a1 t342 _ ?side1 ?side2 A15.out).mono ?_); (case side1 => repeat (first | exact (Kd.R_reads' HO341.out).2.2 | (with_reducible refine Kd.C_alloc ?_ _) | (with_reducible refine Kd.C_drewN ?_ _) | (with_reducible refine Kd.C_drew ?_))); (case side2 => exact (Kd.R_reads' HO341.out).2.1); rintro e w20 ⟨v343, rfl, ho0, hb⟩; have n0_ := K0 (Kd.R_elder' (by (with_reducible repeat (first | apply rA | apply rN | apply rD)); exact HO341.out) (Kd.R_base ho0) hb); have n1_ := K0 (Kd.R_lower ho0 (below_size (by repeat (first | (with_reducible first | exact HB.out | apply wA | apply wN | apply wD) | exact HB.out)))); have n2_ := K0 (below_step (by repeat (first | (with_reducible first | exact HB.out | apply wA | apply wN | apply wD) | exact HB.out)) hb); clear HO341; clear HB; have HO341 := n0_; have HO344 := n1_; have HB := n2_; clear n0_ n1_ n2_; (try clear hb); (try clear hb2); (try clear hk); (try clear hi); (try clear ho0)) | (go_at_call 47; (with_reducible refine (rundlelaw18_nodes.calls kj2 _ _ l0 t345 _ ?side1 ?side2 A16.out).mono ?_); (case side1 => repeat (first | exact (Kd.C_below HR0.out HB.out) | (with_reducible refine Kd.C_alloc ?_ _) | (with_reducible refine Kd.C_drewN ?_ _) | (with_reducible refine Kd.C_drew ?_))); (case side2 => exact HC0.out); rintro e w21 ⟨v346, rfl, ho0, hb⟩; have n0_ := K0 (rB (by (with_reducible repeat (first | apply rA | apply rN | apply rD)); exact HO341.out) hb); have n1_ := K0 (rB (by (with_reducible repeat (first | apply rA | apply rN | apply rD)); exact HO344.out) hb); have n2_ := K0 (Kd.R_lower ho0 (below_size (by repeat (first | (with_reducible first | exact HB.out | apply wA | apply wN | apply wD) | exact HB.out)))); have n3_ := K0 (below_step (by repeat (first | (with_reducible first | exact HB.out | apply wA | apply wN | apply wD) | exact HB.out)) hb); clear HO341; clear HO344; clear HB; have HO341 := n0_; have HO344 := n1_; have HO347 := n2_; have HB := n3_; clear n0_ n1_ n2_ n3_; (try clear hb); (try clear hb2); (try clear hk); (try clear hi); (try clear ho0); obtain ⟨Ao22, co22, eo22⟩ := Kd.R_slice HO347.out; subst eo22) | (go_at_call 46; (with_reducible refine (rundleref18_Empties.calls kj2 _ _ t345 a1 t348 _ ?side1 ?side2 A17.out).mono ?_); (case side1 => repeat (first | exact (Kd.R_reads' HO347.out).2.2 | (with_reducible refine Kd.C_alloc ?_ _) | (with_reducible refine Kd.C_drewN ?_ _) | (with_reducible refine Kd.C_drew ?_))); (case side2 => exact (Kd.R_reads' HO347.out).2.1); rintro e w23 ⟨v349, rfl, ho0, hb⟩; have n0_ := K0 (Kd.R_elder' (by (with_reducible repeat (first | apply rA | apply rN | apply rD)); exact HO341.out) (Kd.R_base ho0) hb); have n1_ := K0 (Kd.R_elder' (by (with_reducible repeat (first | apply rA | apply rN | apply rD)); exact HO344.out) (Kd.R_base ho0) hb); have n2_ := K0 (rB (by (with_reducible repeat (first | apply rA | apply rN | apply rD)); exact HO347.out) hb); have n3_ := K0 (Kd.R_lower (Kd.R_new' ho0 (Kd.R_lt (by (with_reducible repeat (first | apply rA | apply rN | apply rD)); exact HO344.out))) (below_size (by repeat (first | (with_reducible first | exact HB.out | apply wA | apply wN | apply wD) | exact HB.out)))); have n4_ := K0 (below_step (by repeat (first | (with_reducible first | exact HB.out | apply wA | apply wN | apply wD) | exact HB.out)) hb); clear HO341; clear HO344; clear HO347; clear HB; have HO341 := n0_; have HO344 := n1_; have HO347 := n2_; have HO350 := n3_; have HB := n4_; clear n0_ n1_ n2_ n3_ n4_; (try clear hb); (try clear hb2); (try clear hk); (try clear hi); (try clear ho0))))
    go_loopg [9] kj2 (fun kq v9 w' => ∃ (x9_2 : Int), v9 = .int .i64 x9_2 ∧ Aside0 (rundlelaw18_PlanEmpties.l0 kq t342 t348 x9_2 = some r) ∧ Aside0 (kq ≤ kj2) ∧ Aside0 (Kd.R Kd.bool 4 w' w.heap.size (fun k_ => some k_ ≠ (v349 : Value).ownBlock) v343 t342) ∧ Aside0 (Kd.R Kd.bool 4 w' w.heap.size (fun k_ => some k_ ≠ (v343 : Value).ownBlock) v349 t348) ∧ Aside0 (Below w.heap.size w w'))
    case atStart => exact ⟨(0), (by first | rfl | (simp; done) | (simp [*]; done)), H', ⟨Nat.le_refl _⟩, ⟨by (with_reducible repeat (first | apply rA | apply rN | apply rD)); exact Kd.R_mono HO344.out (fun _ hk => hk.2)⟩, ⟨by (with_reducible repeat (first | apply rA | apply rN | apply rD)); exact Kd.R_mono HO350.out (fun _ hk => hk.2)⟩, ⟨by repeat (first | (with_reducible first | exact HB.out | apply wA | apply wN | apply wD) | exact HB.out)⟩⟩
    case round =>
     clear H'; try clear c1
     try clear p2
     try clear c5
     try clear c6
     try clear c6b0
     try clear c6b1
     try clear c9
     try clear c10
     try clear c14
     try clear p2
     obtain ⟨x9_2, rfl, HA, HK2, HO_7, HO_8, HB⟩ := hrel
     cases gk with
     | zero => exact absurd HA.out (by simp [rundlelaw18_PlanEmpties.l0])
     | succ k2 =>
      have H := HA.out; clear HA; simp only [rundlelaw18_PlanEmpties.l0] at H; by_cases c24 : x9_2 < (t348.length : Int)
      ·
       rw [if_pos c24] at H; have c24b0 : decide (x9_2 < (t348.length : Int)) = true := dT c24; clear c24; by_cases c25 : x9_2 ≥ (t342.length : Int)
       · rw [if_pos c25] at H; have c25b0 : decide ((t342.length : Int) ≤ x9_2) = true := dT c25; clear c25; exact absurd (H.trans (congrArg some HRT.out)) (by simp)
       rw [if_neg c25] at H; have c25b0 : decide ((t342.length : Int) ≤ x9_2) = false := dF c25; clear c25; by_cases c26 : 0 ≤ x9_2
       ·
        rw [if_pos c26] at H; have c26b0 : decide (0 ≤ x9_2) = true := dT c26; clear c26; by_cases c27 : x9_2 < (t342.length : Int)
        ·
         rw [if_pos c27] at H; have c27b0 : decide (x9_2 < (t342.length : Int)) = true := dT c27; clear c27; by_cases c28 : ((rdOf false t342 x9_2) != (rdOf false t348 x9_2)) = true
         ·
          rw [if_pos c28] at H; have c28b0 : ((rdOf false t342 x9_2) != (rdOf false t348 x9_2)) = true := c28; (try (have c28b1 : decide ((rdOf false t342 x9_2) = (rdOf false t348 x9_2)) = false := by simpa using c28))
          (try (have c28b2 : ((rdOf false t342 x9_2) == (rdOf false t348 x9_2)) = false := by simpa using c28))
          (try (have c28b3 : ¬ ((rdOf false t342 x9_2) = (rdOf false t348 x9_2)) := by simpa using c28))
          clear c28; exact absurd (H.trans (congrArg some HRT.out)) (by simp)
         rw [if_neg c28] at H; have c28b0 : ((rdOf false t342 x9_2) != (rdOf false t348 x9_2)) = false := by simpa using c28
         (try (have c28b1 : decide ((rdOf false t342 x9_2) = (rdOf false t348 x9_2)) = true := by simpa using c28))
         (try (have c28b2 : ((rdOf false t342 x9_2) == (rdOf false t348 x9_2)) = true := by simpa using c28))
         clear c28; have H' := K0 H; clear H; obtain ⟨Ao29, co29, eo29⟩ := Kd.R_slice HO_8.out; subst eo29; obtain ⟨Ao30, co30, eo30⟩ := Kd.R_slice HO_7.out; subst eo30; have p351 : 0 ≤ (x9_2 : Int) := oT (by first | (with_reducible assumption) | assumption); have q351 : x9_2 < (t342.length : Int) := oT (by first | (with_reducible assumption) | assumption); obtain ⟨ad351, e351, hx351_0⟩ := Kd.at_bool (Kd.R_reads' HO_7.out).2.2 x9_2 p351 q351
         cases e351; replace p351 := eq_true p351; replace q351 := eq_true q351; have p352 : 0 ≤ (x9_2 : Int) := oT (by first | (with_reducible assumption) | assumption); have q352 : x9_2 < (t348.length : Int) := oT (by first | (with_reducible assumption) | assumption); obtain ⟨ad352, e352, hx352_0⟩ := Kd.at_bool (Kd.R_reads' HO_8.out).2.2 x9_2 p352 q352
         cases e352; replace p352 := eq_true p352; replace q352 := eq_true q352; go_wp2
         repeat (go_quiet (fail); try go_wp2)
         go_roundg k2
         case measure => have := HJ2.out; have := HK2.out; omega
         case rel => exact ⟨(wrap64 (x9_2 + 1)), (by first | rfl | (simp; done) | (simp [*]; done)), H', ⟨by have := HJ2.out; have := HK2.out; omega⟩, ⟨by (with_reducible repeat (first | apply rA | apply rN | apply rD)); exact HO_7.out⟩, ⟨by (with_reducible repeat (first | apply rA | apply rN | apply rD)); exact HO_8.out⟩, ⟨by repeat (first | (with_reducible first | exact HB.out | apply wA | apply wN | apply wD) | exact HB.out)⟩⟩
        rw [if_neg c27] at H; exact absurd H (by simp)
       rw [if_neg c26] at H; exact absurd H (by simp)
      rw [if_neg c24] at H; have c24b0 : decide (x9_2 < (t348.length : Int)) = false := dF c24; clear c24; obtain rfl := Option.some.inj H; obtain ⟨Ao31, co31, eo31⟩ := Kd.R_slice HO_8.out; subst eo31; obtain ⟨Ao32, co32, eo32⟩ := Kd.R_slice HO_7.out; subst eo32; go_wp2
      repeat (go_quiet (fail); try go_wp2)
      go_ret; exact ⟨by first | rfl | (simp [errW_none, errW_some] <;> rfl) | (simp [*, errW_none, errW_some] <;> rfl), by repeat (first | (with_reducible first | exact HB.out | apply wA | apply wN | apply wD) | exact HB.out)⟩
   replace c14 := Bool.eq_false_iff.mpr c14; subst c14; have H1 : (some false) = some r := by rw [if_neg (show ¬ (false = true) by decide)] at H; exact H
   clear H; have H := H1; clear H1; exact absurd (H.trans (congrArg some HRT.out)) (by simp)
end Go.Proofs.Ytoaacdjcjicemaa.PPlanEmpties
