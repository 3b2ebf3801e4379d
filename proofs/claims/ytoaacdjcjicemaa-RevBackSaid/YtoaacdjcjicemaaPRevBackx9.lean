-- written by a program of this session (the print, turned)
import Derived.Test.YtoaacdjcjicemaaPRevBackx0
import Derived.Test.YtoaacdjcjicemaaWAl
namespace Go.Proofs.Ytoaacdjcjicemaa.PRevBack
open Go.RowKit Go.Proofs.YtoaacdjcjicemaaW.PrintWords Go.Proofs.YtoaacdjcjicemaaW.PrintLast Go.Proofs.YtoaacdjcjicemaaW.PrintMore
attribute [local go_sem] cell_self cell_there leq_str geq_str gtr_str max2_str max2_int min2_int max_two min_two max_three min_three max_four min_four   -- for this text's walks alone
set_option linter.unusedVariables false
set_option linter.unusedSimpArgs false
abbrev q9_0 : Array Bool := #[false, false, false, false, false, false, false, false, false, false, false, false, false, false, false, false, false, false, false, false]
abbrev q9_1 : Array Bool := #[true, false, false, false, false, false, false, false, false, false, false, false, false, false, false, false, false, false, false, false]
abbrev q9_2 : Array Bool := #[true, true, false, false, false, false, false, false, false, false, false, false, false, false, false, false, false, false, false, false]
abbrev q9_3 : Array Bool := #[true, true, true, false, false, false, false, false, false, false, false, false, false, false, false, false, false, false, false, false]
abbrev q9_4 : Array Bool := #[true, true, true, true, false, false, false, false, false, false, false, false, false, false, false, false, false, false, false, false]
abbrev q9_5 : Array Bool := #[true, true, true, true, true, false, false, false, false, false, false, false, false, false, false, false, false, false, false, false]
abbrev q9_6 : Array Bool := #[true, true, true, true, true, false, true, false, false, false, false, false, false, false, false, false, false, false, false, false]
abbrev q9_7 : Array Bool := #[true, true, true, true, true, false, true, true, false, false, false, false, false, false, false, false, false, false, false, false]
abbrev q9_8 : Array Bool := #[true, true, true, true, true, false, true, true, true, false, false, false, false, false, false, false, false, false, false, false]
abbrev q9_9 : Array Bool := #[true, true, true, true, true, false, true, true, true, true, false, false, false, false, false, false, false, false, false, false]
abbrev q9_10 : Array Bool := #[true, true, true, true, true, false, true, true, true, true, false, true, false, false, false, false, false, false, false, false]
abbrev q9_11 : Array Bool := #[true, true, true, true, true, false, true, true, true, true, false, true, true, false, false, false, false, false, false, false]
abbrev q9_12 : Array Bool := #[true, true, true, true, true, false, true, true, true, true, false, true, true, true, false, false, false, false, false, false]
abbrev q9_13 : Array Bool := #[true, true, true, true, true, false, true, true, true, true, false, true, true, true, true, false, false, false, false, false]
abbrev q9_14 : Array Bool := #[true, true, true, true, true, true, true, true, true, true, false, true, true, true, true, false, false, false, false, false]
abbrev q9_15 : Array Bool := #[true, true, true, true, true, true, true, true, true, true, true, true, true, true, true, false, false, false, false, false]
abbrev q9_16 : Array Bool := #[true, true, true, true, true, true, true, true, true, true, true, true, true, true, true, true, false, false, false, false]
abbrev q9_17 : Array Bool := #[true, true, true, true, true, true, true, true, true, true, true, true, true, true, true, true, true, false, false, false]
abbrev q9_18 : Array Bool := #[true, true, true, true, true, true, true, true, true, true, true, true, true, true, true, true, true, true, false, false]
abbrev q9_19 : Array Bool := #[true, true, true, true, true, true, true, true, true, true, true, true, true, true, true, true, true, true, true, false]
abbrev q9_20 : Array Bool := #[true, true, true, true, true, true, true, true, true, true, true, true, true, true, true, true, true, true, true, true]
/-! ### rundlelaw08_Of: function 18 -/
def rundlelaw08_Of.l0 : Nat → List (S62) → List (S114) → Int → Option ((List (S114)))
 | 0, _, _, _ => none
 | k + 1, x0, x3, x4 => if x4 < (x0.length : Int) then (if 0 ≤ x4 then (if x3.length < 3518437208883 then (rundlelaw08_Of.l0 k x0 (x3 ++ [(⟨(rd_T62 x0 x4).f0, (rd_T62 x0 x4).f1, (rd_T62 x0 x4).f2⟩ : S114)]) (wrap64 (x4 + 1))) else (none)) else (none)) else (some x3)
def rundlelaw08_Of.f (k : Nat) (l0 : List (S62)) : Option ((List (S114))) := rundlelaw08_Of.l0 k l0 ([] : List (S114)) 0
def rundlelaw08_Of.T5 : Bool × List (List Nat × List Nat) := (true, [([], []), ([], []), ([], []), ([1, 2], [1, 2]), ([3], [3]), ([4], [4]), ([], []), ([], []), ([6, 7], [6, 7]), ([8], [8]), ([9], [9]), ([], []), ([], []), ([11, 12], [11, 12]), ([13], [13]), ([14], [14]), ([5, 10, 15], [5, 10, 15]), ([16], [16]), ([0, 17], [0, 17]), ([18, 18, 0, 1, 2, 3, 4, 5, 6, 7, 8, 9, 10, 11, 12, 13, 14, 15, 16, 17, 18], [0, 18])])
def rundlelaw08_Of.B5 : List Nat := [0, 0, 0, 6, 14, 30, 0, 0, 192, 448, 960, 0, 0, 6144, 14336, 30720, 65534, 131070, 262143, 524287]
theorem rundlelaw08_Of.tab5 : rtab .any (opsOf Try.f18 5) = rundlelaw08_Of.T5 := by kernel_rfl
theorem rundlelaw08_Of.bits5 : waitsOk rundlelaw08_Of.T5.2 rundlelaw08_Of.B5 = true := by kernel_rfl
set_option maxHeartbeats 8000000 in
set_option maxRecDepth 100000 in
theorem rundlelaw08_Of.calls (k : Nat) (A0 : Option Addr) (c0 : Nat) (l0 : List (S62)) (r : List (S114)) (w : World) (hr0 : Kd.C k62 w A0 l0.length l0) (hc0 : l0.length ≤ c0) (h : rundlelaw08_Of.f k l0 = some r) :
  Calls Try.prog 18 #[.slice A0 l0.length c0] w fun e w' => ∃ v0_ : Value, e = .returned (v0_) ∧ Kd.R k114 114 w' w.heap.size (fun _ => True) v0_ r ∧ Below w.heap.size w w' := by
 have hu114 := Try.underlying114
 have HR0 := K0 hr0
 have HC0 := K0 hc0
 clear hr0 hc0
 have HB := K0 (Below.refl w.heap.size w)
 have H : (rundlelaw08_Of.l0 k l0 ([] : List (S114)) 0) = some r := h
 clear h
 have H' := K0 H
 clear H
 go_enter Try.func18, Try.ntmps18
 go_wp2
 go_loopg [3, 4] k (fun kq v3 v4 w' => ∃ (x3_1 : List (S114)) (x4_1 : Int), v4 = .int .i64 x4_1 ∧ Aside0 (rundlelaw08_Of.l0 kq l0 x3_1 x4_1 = some r) ∧ Aside0 (kq ≤ k) ∧ Aside0 (Kd.R k114 114 w' w.heap.size (fun _ => True) v3 x3_1) ∧ Aside0 (Below w.heap.size w w'))
 case atStart => exact ⟨(([] : List (S114))), (0), (by first | rfl | (simp; done) | (simp [*]; done)), H', ⟨Nat.le_refl _⟩, ⟨by first | exact Kd.R_nil _ _ _ _ _ | exact Kd.N_nil _ _ _ _ _ | exact Kd.V_nil _ _ _ _ _ | exact Kd.Q_nil _ _ _ _ _ | exact Kd.S_nil _ _ _ _ _⟩, ⟨by repeat (first | (with_reducible first | exact HB.out | apply wA | apply wN | apply wD) | exact HB.out)⟩⟩
 case round =>
  clear H'
  try clear c1
  obtain ⟨x3_1, x4_1, rfl, HA, HK1, HO_3, HB⟩ := hrel
  cases gk with
  | zero => exact absurd HA.out (by simp [rundlelaw08_Of.l0])
  | succ k1 =>
   have H := HA.out; clear HA; simp only [rundlelaw08_Of.l0] at H; by_cases c2 : x4_1 < (l0.length : Int)
   ·
    rw [if_pos c2] at H; have c2b0 : decide (x4_1 < (l0.length : Int)) = true := dT c2; clear c2; by_cases c3 : 0 ≤ x4_1
    ·
     rw [if_pos c3] at H; have c3b0 : decide (0 ≤ x4_1) = true := dT c3; clear c3; by_cases c4 : x3_1.length < 3518437208883
     ·
      rw [if_pos c4] at H; have LMc4 := K0 c4; clear c4; obtain ⟨y298, hy298⟩ : ∃ y_ : List (S114), y_ = (x3_1 ++ [(⟨(rd_T62 l0 x4_1).f0, (rd_T62 l0 x4_1).f1, (rd_T62 l0 x4_1).f2⟩ : S114)]) := ⟨_, rfl⟩; replace H : (rundlelaw08_Of.l0 k1 l0 y298 (wrap64 (x4_1 + 1))) = some r := by first | (rw [hy298]; with_reducible exact H) | (have H2_ := (Option.bind_some _ _).symm.trans H; rw [hy298]; with_reducible exact H2_) | (have H2_ := (Option.bind_some _ _).symm.trans H; with_reducible exact H2_) | with_reducible exact H | (rw [hy298]; exact H) | exact H
      have Ny298 := K0 hy298; clear hy298; have H' := K0 H; clear H; try go_wp2
      have n0_ := K0 (rD HO_3.out); have n1_ := K0 (wD HB.out); clear HO_3 HB; have HO_3 := n0_; have HB := n1_; clear n0_ n1_; have p295 : 0 ≤ (x4_1 : Int) := oT (by first | (with_reducible assumption) | assumption); have q295 : x4_1 < (l0.length : Int) := oT (by first | (with_reducible assumption) | assumption); obtain ⟨ad295, e295, hx295_0, hx295_1, hx295_2⟩ := at_T62 HR0.out x4_1 p295 q295; have hw295_2 := hx295_2; have hw295_1 := hx295_1; have hw295_0 := hx295_0
      cases e295; replace hx295_0 := (HB.out.cell (bL w _ hx295_0)).trans hx295_0; replace hx295_1 := (HB.out.cell (bL w _ hx295_1)).trans hx295_1; replace hx295_2 := (HB.out.cell (bL w _ hx295_2)).trans hx295_2; replace p295 := eq_true p295; replace q295 := eq_true q295; have p296 : 0 ≤ (x4_1 : Int) := oT (by first | (with_reducible assumption) | assumption); have q296 : x4_1 < (l0.length : Int) := oT (by first | (with_reducible assumption) | assumption); obtain ⟨ad296, e296, hx296_0, hx296_1, hx296_2⟩ := at_T62 HR0.out x4_1 p296 q296; have hw296_2 := hx296_2; have hw296_1 := hx296_1; have hw296_0 := hx296_0; obtain rfl : ad295 = ad296 := (by injection e296); replace hx296_0 := (HB.out.cell (bL w _ hx296_0)).trans hx296_0; replace hx296_1 := (HB.out.cell (bL w _ hx296_1)).trans hx296_1; replace hx296_2 := (HB.out.cell (bL w _ hx296_2)).trans hx296_2; replace p296 := eq_true p296; replace q296 := eq_true q296; have p297 : 0 ≤ (x4_1 : Int) := oT (by first | (with_reducible assumption) | assumption); have q297 : x4_1 < (l0.length : Int) := oT (by first | (with_reducible assumption) | assumption); obtain ⟨ad297, e297, hx297_0, hx297_1, hx297_2⟩ := at_T62 HR0.out x4_1 p297 q297; have hw297_2 := hx297_2; have hw297_1 := hx297_1; have hw297_0 := hx297_0; obtain rfl : ad295 = ad297 := (by injection e297); replace hx297_0 := (HB.out.cell (bL w _ hx297_0)).trans hx297_0; replace hx297_1 := (HB.out.cell (bL w _ hx297_1)).trans hx297_1; replace hx297_2 := (HB.out.cell (bL w _ hx297_2)).trans hx297_2; replace p297 := eq_true p297; replace q297 := eq_true q297; refine start_ (n := 20) (S := fun w' => w'.cell? (ad295.add ((x4_1).toNat * 3)) = some (.string ((rd_T62 l0 x4_1).f0)) ∧ w'.cell? ⟨(ad295.add ((x4_1).toNat * 3)).block, (ad295.add ((x4_1).toNat * 3)).off + 1, none⟩ = some (.string ((rd_T62 l0 x4_1).f1)) ∧ w'.cell? ⟨(ad295.add ((x4_1).toNat * 3)).block, (ad295.add ((x4_1).toNat * 3)).off + 2, none⟩ = some (.bool ((rd_T62 l0 x4_1).f2)) ∧ w'.cell? (ad295.add ((x4_1).toNat * 3)) = some (.string ((rd_T62 l0 x4_1).f0)) ∧ w'.cell? ⟨(ad295.add ((x4_1).toNat * 3)).block, (ad295.add ((x4_1).toNat * 3)).off + 1, none⟩ = some (.string ((rd_T62 l0 x4_1).f1)) ∧ w'.cell? ⟨(ad295.add ((x4_1).toNat * 3)).block, (ad295.add ((x4_1).toNat * 3)).off + 2, none⟩ = some (.bool ((rd_T62 l0 x4_1).f2)) ∧ w'.cell? (ad295.add ((x4_1).toNat * 3)) = some (.string ((rd_T62 l0 x4_1).f0)) ∧ w'.cell? ⟨(ad295.add ((x4_1).toNat * 3)).block, (ad295.add ((x4_1).toNat * 3)).off + 1, none⟩ = some (.string ((rd_T62 l0 x4_1).f1)) ∧ w'.cell? ⟨(ad295.add ((x4_1).toNat * 3)).block, (ad295.add ((x4_1).toNat * 3)).off + 2, none⟩ = some (.bool ((rd_T62 l0 x4_1).f2))) (ds := []) q9_0 (by kernel_rfl) rfl rfl ⟨((HB.out.cell (bL w _ hw295_0)).trans hw295_0), ((HB.out.cell (bL w _ hw295_1)).trans hw295_1), ((HB.out.cell (bL w _ hw295_2)).trans hw295_2), ((HB.out.cell (bL w _ hw296_0)).trans hw296_0), ((HB.out.cell (bL w _ hw296_1)).trans hw296_1), ((HB.out.cell (bL w _ hw296_2)).trans hw296_2), ((HB.out.cell (bL w _ hw297_0)).trans hw297_0), ((HB.out.cell (bL w _ hw297_1)).trans hw297_1), ((HB.out.cell (bL w _ hw297_2)).trans hw297_2)⟩ (fun hHeld => ?_); refine with_tabW rundlelaw08_Of.tab5 rundlelaw08_Of.bits5 (fun HT_ HW_ => ?_)
      generalize wr.drew = w5 at HO_3 HB hx295_0 hx295_1 hx295_2 hx296_0 hx296_1 hx296_2 hx297_0 hx297_1 hx297_2 hHeld ⊢; refine pure_ (i := 0) (N := some 11) (v := ?_) (a' := ?_) q9_1 rfl rfl (any_of HT_.out (by kernel_rfl)) (fun _ _ _ h => h) (Or.inl ⟨by rfl, ?_⟩) ?_ ?_; rotate_left
      · intro w'; go_simp; with_reducible rfl
      rotate_left
      · simp only [Act.put, s1, s2, s3, i64_w, i32_w]; rfl
      refine pure_ (i := 1) (N := some 12) (v := ?_) (a' := ?_) q9_2 rfl rfl (any_of HT_.out (by kernel_rfl)) (fun _ _ _ h => h) (Or.inl ⟨by rfl, ?_⟩) ?_ ?_; rotate_left
      · intro w'; go_simp; with_reducible rfl
      rotate_left
      · simp only [Act.put, s1, s2, s3, i64_w, i32_w]; rfl
      refine pure_ (i := 2) (N := some 13) (v := ?_) (a' := ?_) q9_3 rfl rfl (any_of HT_.out (by kernel_rfl)) (fun _ _ _ h => h) (Or.inl ⟨by rfl, ?_⟩) ?_ ?_; rotate_left
      · intro w'; go_simp; with_reducible rfl
      rotate_left
      · simp only [Act.put, s1, s2, s3, i64_w, i32_w]; rfl
      refine pure_ (i := 3) (N := some 14) (v := ?_) (a' := ?_) q9_4 rfl rfl (any_of HT_.out (by kernel_rfl)) (fun _ _ _ h => h) (Or.inl ⟨by rfl, ?_⟩) ?_ ?_; rotate_left
      · intro w'; go_simp; with_reducible rfl
      rotate_left
      · simp only [Act.put, s1, s2, s3, i64_w, i32_w]; rfl
      refine pure_ (i := 4) (N := some 15) (v := ?_) (a' := ?_) q9_5 rfl rfl (any_of HT_.out (by kernel_rfl)) (fun _ _ _ h => h) (Or.inl ⟨by rfl, ?_⟩) ?_ ?_; rotate_left
      · intro w'; go_simp; with_reducible rfl
      rotate_left
      · simp only [Act.put, s1, s2, s3, i64_w, i32_w]; rfl
      refine pure_ (i := 6) (N := some 17) (v := ?_) (a' := ?_) q9_6 rfl rfl (any_of HT_.out (by kernel_rfl)) (fun _ _ _ h => h) (Or.inl ⟨by rfl, ?_⟩) ?_ ?_; rotate_left
      · intro w'; go_simp; with_reducible rfl
      rotate_left
      · simp only [Act.put, s1, s2, s3, i64_w, i32_w]; rfl
      refine pure_ (i := 7) (N := some 18) (v := ?_) (a' := ?_) q9_7 rfl rfl (any_of HT_.out (by kernel_rfl)) (fun _ _ _ h => h) (Or.inl ⟨by rfl, ?_⟩) ?_ ?_; rotate_left
      · intro w'; go_simp; with_reducible rfl
      rotate_left
      · simp only [Act.put, s1, s2, s3, i64_w, i32_w]; rfl
      refine pure_ (i := 8) (N := some 19) (v := ?_) (a' := ?_) q9_8 rfl rfl (any_of HT_.out (by kernel_rfl)) (fun _ _ _ h => h) (Or.inl ⟨by rfl, ?_⟩) ?_ ?_; rotate_left
      · intro w'; go_simp; with_reducible rfl
      rotate_left
      · simp only [Act.put, s1, s2, s3, i64_w, i32_w]; rfl
      refine pure_ (i := 9) (N := some 20) (v := ?_) (a' := ?_) q9_9 rfl rfl (any_of HT_.out (by kernel_rfl)) (fun _ _ _ h => h) (Or.inl ⟨by rfl, ?_⟩) ?_ ?_; rotate_left
      · intro w'; go_simp; with_reducible rfl
      rotate_left
      · simp only [Act.put, s1, s2, s3, i64_w, i32_w]; rfl
      refine pure_ (i := 11) (N := some 22) (v := ?_) (a' := ?_) q9_10 rfl rfl (any_of HT_.out (by kernel_rfl)) (fun _ _ _ h => h) (Or.inl ⟨by rfl, ?_⟩) ?_ ?_; rotate_left
      · intro w'; go_simp; with_reducible rfl
      rotate_left
      · simp only [Act.put, s1, s2, s3, i64_w, i32_w]; rfl
      refine pure_ (i := 12) (N := some 23) (v := ?_) (a' := ?_) q9_11 rfl rfl (any_of HT_.out (by kernel_rfl)) (fun _ _ _ h => h) (Or.inl ⟨by rfl, ?_⟩) ?_ ?_; rotate_left
      · intro w'; go_simp; with_reducible rfl
      rotate_left
      · simp only [Act.put, s1, s2, s3, i64_w, i32_w]; rfl
      refine pure_ (i := 13) (N := some 24) (v := ?_) (a' := ?_) q9_12 rfl rfl (any_of HT_.out (by kernel_rfl)) (fun _ _ _ h => h) (Or.inl ⟨by rfl, ?_⟩) ?_ ?_; rotate_left
      · intro w'; go_simp; with_reducible rfl
      rotate_left
      · simp only [Act.put, s1, s2, s3, i64_w, i32_w]; rfl
      refine pure_ (i := 14) (N := some 25) (v := ?_) (a' := ?_) q9_13 rfl rfl (any_of HT_.out (by kernel_rfl)) (fun _ _ _ h => h) (Or.inl ⟨by rfl, ?_⟩) ?_ ?_; rotate_left
      · intro w'; go_simp; with_reducible rfl
      rotate_left
      · simp only [Act.put, s1, s2, s3, i64_w, i32_w]; rfl
      refine take_ (i := 5) (N := some 16) (v := ?_) (a' := ?_) q9_14 rfl rfl (take_ofW HT_.out HW_.out (by kernel_rfl)) (fun _ _ _ h => h) (Or.inl ⟨by rfl, ?_⟩) hHeld ?_ ?_; rotate_left
      · rintro w' ⟨s0, s1, s2, s3, s4, s5, s6, s7, s8⟩; go_simp; with_reducible rfl
      rotate_left
      · simp only [Act.put, s1, s2, s3, i64_w, i32_w]; rfl
      refine take_ (i := 10) (N := some 21) (v := ?_) (a' := ?_) q9_15 rfl rfl (take_ofW HT_.out HW_.out (by kernel_rfl)) (fun _ _ _ h => h) (Or.inl ⟨by rfl, ?_⟩) hHeld ?_ ?_; rotate_left
      · rintro w' ⟨s0, s1, s2, s3, s4, s5, s6, s7, s8⟩; go_simp; with_reducible rfl
      rotate_left
      · simp only [Act.put, s1, s2, s3, i64_w, i32_w]; rfl
      refine take_ (i := 15) (N := some 26) (v := ?_) (a' := ?_) q9_16 rfl rfl (take_ofW HT_.out HW_.out (by kernel_rfl)) (fun _ _ _ h => h) (Or.inl ⟨by rfl, ?_⟩) hHeld ?_ ?_; rotate_left
      · rintro w' ⟨s0, s1, s2, s3, s4, s5, s6, s7, s8⟩; go_simp; with_reducible rfl
      rotate_left
      · simp only [Act.put, s1, s2, s3, i64_w, i32_w]; rfl
      refine pure_ (i := 16) (N := some 27) (v := ?_) (a' := ?_) q9_17 rfl rfl (any_of HT_.out (by kernel_rfl)) (fun _ _ _ h => h) (Or.inl ⟨by rfl, ?_⟩) ?_ ?_; rotate_left
      · intro w'; go_simp; with_reducible rfl
      rotate_left
      · simp only [Act.put, s1, s2, s3, i64_w, i32_w]; rfl
      refine one_ (i := 17) (N := some 28) q9_18 rfl rfl (one_of HT_.out (by kernel_rfl)) (by decide) (fun K hK => ?_); refine value_ (w1 := ?_) (v := ?_) (by rfl) rfl ?_ ?_; rotate_left 2
      ·
       go_simp; constructor
       · rfl
       rfl
      refine hK.out _ _ ⟨(World.cell?_alloc_lt _ _ _ (bL _ _ (((HB.out.cell (bL w _ hw295_0)).trans hw295_0)))).trans (((HB.out.cell (bL w _ hw295_0)).trans hw295_0)), (World.cell?_alloc_lt _ _ _ (bL _ _ (((HB.out.cell (bL w _ hw295_1)).trans hw295_1)))).trans (((HB.out.cell (bL w _ hw295_1)).trans hw295_1)), (World.cell?_alloc_lt _ _ _ (bL _ _ (((HB.out.cell (bL w _ hw295_2)).trans hw295_2)))).trans (((HB.out.cell (bL w _ hw295_2)).trans hw295_2)), (World.cell?_alloc_lt _ _ _ (bL _ _ (((HB.out.cell (bL w _ hw296_0)).trans hw296_0)))).trans (((HB.out.cell (bL w _ hw296_0)).trans hw296_0)), (World.cell?_alloc_lt _ _ _ (bL _ _ (((HB.out.cell (bL w _ hw296_1)).trans hw296_1)))).trans (((HB.out.cell (bL w _ hw296_1)).trans hw296_1)), (World.cell?_alloc_lt _ _ _ (bL _ _ (((HB.out.cell (bL w _ hw296_2)).trans hw296_2)))).trans (((HB.out.cell (bL w _ hw296_2)).trans hw296_2)), (World.cell?_alloc_lt _ _ _ (bL _ _ (((HB.out.cell (bL w _ hw297_0)).trans hw297_0)))).trans (((HB.out.cell (bL w _ hw297_0)).trans hw297_0)), (World.cell?_alloc_lt _ _ _ (bL _ _ (((HB.out.cell (bL w _ hw297_1)).trans hw297_1)))).trans (((HB.out.cell (bL w _ hw297_1)).trans hw297_1)), (World.cell?_alloc_lt _ _ _ (bL _ _ (((HB.out.cell (bL w _ hw297_2)).trans hw297_2)))).trans (((HB.out.cell (bL w _ hw297_2)).trans hw297_2))⟩ (fun hHeld => ?_); clear hK K; refine norm_ (a' := ?_) ?_ ?_; rotate_left
      · show Act.put _ (some 28) _ = _; simp only [Act.put, s1, s2, s3, i64_w, i32_w]; rfl
      refine one_ (i := 18) (N := some 29) q9_19 rfl rfl (one_of HT_.out (by kernel_rfl)) (by decide) (fun K hK => ?_); refine Kd.R_append_step k114 (w0 := w) w.heap.size (by rfl) (.tmp 11) (.tmp 28) 42 114 (.agg #[(.string ⟨#[]⟩), (.string ⟨#[]⟩), (.bool false)]) 40 rfl Try.underlying42 info114 rfl (by decide) (by omega) u3 x3_1 (⟨(rd_T62 l0 x4_1).f0, (rd_T62 l0 x4_1).f1, (rd_T62 l0 x4_1).f2⟩ : S114) [.string ((rd_T62 l0 x4_1).f0), .string ((rd_T62 l0 x4_1).f1), .bool ((rd_T62 l0 x4_1).f2)] (fun _ => True) (fun _ => False) rfl rfl ?aP (fun _ hk => hk.elim) ?aF ?aO ?aB ?aS ?aL ?_; (case aP => exact k114_mkM _ _ _ (⟨(rd_T62 l0 x4_1).f0, (rd_T62 l0 x4_1).f1, (rd_T62 l0 x4_1).f2⟩ : S114))
      (case aB => exact (by repeat (first | (with_reducible first | exact HB.out | apply wA | apply wN | apply wD) | exact HB.out)))
      (case aF => exact (fun _ _ => trivial))
      (case aO => exact (by (with_reducible repeat (first | apply rA | apply rN | apply rD)); exact HO_3.out))
      (case aS => exact (below_size (by repeat (first | (with_reducible first | exact HB.out | apply wA | apply wN | apply wD) | exact HB.out))))
      (case aL => have := LMc4.out; omega)
      intro v299 w6 ho hb hg hat; rw [← Ny298.out] at ho; have n0_ := K0 (hb); have n1_ := K0 (ho); clear HB HO_3; have HB := n0_; have HO300 := n1_; clear n0_ n1_ ho hb hg hat; refine hK.out _ _ ⟨((HB.out.cell (bL w _ hw295_0)).trans hw295_0), ((HB.out.cell (bL w _ hw295_1)).trans hw295_1), ((HB.out.cell (bL w _ hw295_2)).trans hw295_2), ((HB.out.cell (bL w _ hw296_0)).trans hw296_0), ((HB.out.cell (bL w _ hw296_1)).trans hw296_1), ((HB.out.cell (bL w _ hw296_2)).trans hw296_2), ((HB.out.cell (bL w _ hw297_0)).trans hw297_0), ((HB.out.cell (bL w _ hw297_1)).trans hw297_1), ((HB.out.cell (bL w _ hw297_2)).trans hw297_2)⟩ (fun hHeld => ?_); clear hK K; refine norm_ (a' := ?_) ?_ ?_; rotate_left
      · show Act.put _ (some 29) _ = _; simp only [Act.put, s1, s2, s3, i64_w, i32_w]; rfl
      refine pure_ (i := 19) (N := some 3) (v := ?_) (a' := ?_) q9_20 rfl rfl (any_of HT_.out (by kernel_rfl)) (fun _ _ _ h => h) (Or.inl ⟨by rfl, ?_⟩) ?_ ?_; rotate_left
      · intro w'; go_simp; with_reducible rfl
      rotate_left
      · simp only [Act.put, s1, s2, s3, i64_w, i32_w]; rfl
      refine done_ (done_of HT_.out (by kernel_rfl)) ?_; try go_wp2
      go_roundg k1
      case measure => have := HK1.out; omega
      case rel => exact ⟨(y298), (wrap64 (x4_1 + 1)), (by first | rfl | (simp; done) | (simp [*]; done)), H', ⟨by have := HK1.out; omega⟩, ⟨by (with_reducible repeat (first | apply rA | apply rN | apply rD)); exact HO300.out⟩, ⟨by repeat (first | (with_reducible first | exact HB.out | apply wA | apply wN | apply wD) | exact HB.out)⟩⟩
     rw [if_neg c4] at H; exact absurd H (by simp)
    rw [if_neg c3] at H; exact absurd H (by simp)
   rw [if_neg c2] at H; have c2b0 : decide (x4_1 < (l0.length : Int)) = false := dF c2; clear c2; obtain rfl := Option.some.inj H; go_wp2
   go_ret; exact ⟨_, by first | rfl | (simp [errW_none, errW_some] <;> rfl) | (simp [*, errW_none, errW_some] <;> rfl), by (with_reducible repeat (first | apply rA | apply rN | apply rD)); exact HO_3.out, by repeat (first | (with_reducible first | exact HB.out | apply wA | apply wN | apply wD) | exact HB.out)⟩
-- NOT PRINTED: function 103 (api_Entry_103)
-- NOT PRINTED: function 96 (api_Entry_96)
end Go.Proofs.Ytoaacdjcjicemaa.PRevBack
