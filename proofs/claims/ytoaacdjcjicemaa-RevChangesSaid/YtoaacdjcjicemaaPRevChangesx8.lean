-- written by a program of this session (the print, turned)
import Derived.Test.YtoaacdjcjicemaaPRevChangesx0
import Derived.Test.YtoaacdjcjicemaaPRevChangesx1
namespace Go.Proofs.Ytoaacdjcjicemaa.PRevChanges
open Go.RowKit Go.Proofs.YtoaacdjcjicemaaW.PrintWords Go.Proofs.YtoaacdjcjicemaaW.PrintLast Go.Proofs.YtoaacdjcjicemaaW.PrintMore
attribute [local go_sem] cell_self cell_there leq_str geq_str gtr_str max2_str max2_int min2_int max_two min_two max_three min_three max_four min_four   -- for this text's walks alone
set_option linter.unusedVariables false
set_option linter.unusedSimpArgs false

/-! ### rundlelaw08_Of: function 18 -/
def rundlelaw08_Of.l0 : Nat → List (S62) → List (S114) → Int → Option ((List (S114)))
  | 0, _, _, _ => none
  | k + 1, x0, x3, x4 => if x4 < (x0.length : Int) then (if 0 ≤ x4 then (if x3.length < 3518437208883 then (rundlelaw08_Of.l0 k x0 (x3 ++ [(⟨(rd_T62 x0 x4).f0, (rd_T62 x0 x4).f1, (rd_T62 x0 x4).f2⟩ : S114)]) (wrap64 (x4 + 1))) else (none)) else (none)) else (some x3)
def rundlelaw08_Of.f (k : Nat) (l0 : List (S62)) : Option ((List (S114))) := rundlelaw08_Of.l0 k l0 ([] : List (S114)) 0
theorem rundlelaw08_Of.mono_l : ∀ k, (∀ y0 y1 y2, LeO (rundlelaw08_Of.l0 k y0 y1 y2) (rundlelaw08_Of.l0 (k + 1) y0 y1 y2))
  | 0 => fun _ _ _ r h => by simp [rundlelaw08_Of.l0] at h
  | k + 1 => by
    have ih0 := rundlelaw08_Of.mono_l k
    · intro y0 y1 y2
      unfold rundlelaw08_Of.l0
      repeat' first
      | (with_reducible exact ih0 _ _ _)
      | (with_reducible exact LeO.refl _)
      | (with_reducible exact LeO.none _)
      | (with_reducible refine LeO.ite ?_ ?_)
      | (with_reducible refine LeO.bind ?_ (fun _ => ?_))
      | exact ih0 _ _ _
      | exact LeO.none _
      | refine LeO.ite ?_ ?_
      | refine LeO.bind ?_ (fun _ => ?_)
theorem rundlelaw08_Of.mono : ∀ a0 k, LeO (rundlelaw08_Of.f k a0) (rundlelaw08_Of.f (k + 1) a0) := by
  intro a0 k
  have ih0 := rundlelaw08_Of.mono_l k
  unfold rundlelaw08_Of.f
  repeat' first
      | (with_reducible exact ih0 _ _ _)
      | (with_reducible exact LeO.refl _)
      | (with_reducible exact LeO.none _)
      | (with_reducible refine LeO.ite ?_ ?_)
      | (with_reducible refine LeO.bind ?_ (fun _ => ?_))
      | exact ih0 _ _ _
      | exact LeO.none _
      | refine LeO.ite ?_ ?_
      | refine LeO.bind ?_ (fun _ => ?_)
def rundlelaw08_Of.T5 : Bool × List (List Nat × List Nat) := (true, [([], []), ([], []), ([], []), ([1, 2], [1, 2]), ([3], [3]), ([4], [4]), ([], []), ([], []), ([6, 7], [6, 7]), ([8], [8]), ([9], [9]), ([], []), ([], []), ([11, 12], [11, 12]), ([13], [13]), ([14], [14]), ([5, 10, 15], [5, 10, 15]), ([16], [16]), ([0, 17], [0, 17]), ([18, 18, 0, 1, 2, 3, 4, 5, 6, 7, 8, 9, 10, 11, 12, 13, 14, 15, 16, 17, 18], [0, 18])])
def rundlelaw08_Of.B5 : List Nat := [0, 0, 0, 6, 14, 30, 0, 0, 192, 448, 960, 0, 0, 6144, 14336, 30720, 65534, 131070, 262143, 524287]
theorem rundlelaw08_Of.tab5 : rtab .any (opsOf Try.f18 5) = rundlelaw08_Of.T5 := by kernel_rfl
theorem rundlelaw08_Of.bits5 : waitsOk rundlelaw08_Of.T5.2 rundlelaw08_Of.B5 = true := by kernel_rfl
set_option maxHeartbeats 8000000 in
set_option maxRecDepth 100000 in
theorem rundlelaw08_Of.calls (k : Nat) (A0 : Option Addr) (c0 : Nat) (l0 : List (S62)) (r : List (S114)) (w : World) (hr0 : Kd.C k62 w A0 l0.length l0) (hc0 : l0.length ≤ c0) (h : rundlelaw08_Of.f k l0 = some r) :
    Calls Try.prog 18 #[.slice A0 l0.length c0] w fun e w' => ∃ v0_ : Value, e = .returned (v0_) ∧ Kd.R k114 114 w' w.heap.size (fun _ => True) v0_ r ∧ Below w.heap.size w w' := by
  have hu114 := Try.underlying114
  have HR0 := Aside0.mk hr0
  have HC0 := Aside0.mk hc0
  clear hr0 hc0
  have HB := Aside0.mk (Below.refl w.heap.size w)
  have H : (rundlelaw08_Of.l0 k l0 ([] : List (S114)) 0) = some r := h
  clear h
  have H' := Aside0.mk H
  clear H
  go_enter Try.func18, Try.ntmps18
  go_wp2
  go_loopg [3, 4] k (fun kq v3 v4 w' => ∃ (x3_1 : List (S114)) (x4_1 : Int), v4 = .int .i64 x4_1 ∧ Aside0 (rundlelaw08_Of.l0 kq l0 x3_1 x4_1 = some r) ∧ Aside0 (kq ≤ k) ∧ Aside0 (Kd.R k114 114 w' w.heap.size (fun _ => True) v3 x3_1) ∧ Aside0 (Below w.heap.size w w'))
  case atStart => exact ⟨(([] : List (S114))), (0), (by first | rfl | (simp; done) | (simp [*]; done)), H', ⟨Nat.le_refl _⟩, ⟨by first | exact Kd.R_nil _ _ _ _ _ | exact Kd.N_nil _ _ _ _ _ | exact Kd.V_nil _ _ _ _ _ | exact Kd.Q_nil _ _ _ _ _ | exact Kd.S_nil _ _ _ _ _⟩, ⟨by repeat (first | (with_reducible first | exact HB.out | apply below_alloc | apply pw_below_drewN | apply below_drew1) | exact HB.out)⟩⟩
  case round =>
    clear H'
    try clear c1
    obtain ⟨x3_1, x4_1, rfl, HA, HK1, HO_3, HB⟩ := hrel
    cases gk with
    | zero => exact absurd HA.out (by simp [rundlelaw08_Of.l0])
    | succ k1 =>
      have H := HA.out
      clear HA
      simp only [rundlelaw08_Of.l0] at H
      by_cases c2 : x4_1 < (l0.length : Int)
      · rw [if_pos c2] at H
        have c2b0 : decide (x4_1 < (l0.length : Int)) = true := decide_eq_true c2
        clear c2
        by_cases c3 : 0 ≤ x4_1
        · rw [if_pos c3] at H
          have c3b0 : decide (0 ≤ x4_1) = true := decide_eq_true c3
          clear c3
          by_cases c4 : x3_1.length < 3518437208883
          · rw [if_pos c4] at H
            have LMc4 := Aside0.mk c4
            clear c4
            obtain ⟨y298, hy298⟩ : ∃ y_ : List (S114), y_ = (x3_1 ++ [(⟨(rd_T62 l0 x4_1).f0, (rd_T62 l0 x4_1).f1, (rd_T62 l0 x4_1).f2⟩ : S114)]) := ⟨_, rfl⟩
            replace H : (rundlelaw08_Of.l0 k1 l0 y298 (wrap64 (x4_1 + 1))) = some r := by first | (rw [hy298]; with_reducible exact H) | (have H2_ := (Option.bind_some _ _).symm.trans H; rw [hy298]; with_reducible exact H2_) | (have H2_ := (Option.bind_some _ _).symm.trans H; with_reducible exact H2_) | with_reducible exact H | (rw [hy298]; exact H) | exact H
            have Ny298 := Aside0.mk hy298
            clear hy298
            have H' := Aside0.mk H
            clear H
            try go_wp2
            have n0_ := Aside0.mk (Kd.R_drew HO_3.out)
            have n1_ := Aside0.mk (below_drew1 HB.out)
            clear HO_3
            clear HB
            have HO_3 := n0_
            have HB := n1_
            clear n0_ n1_
            have p295 : 0 ≤ (x4_1 : Int) := of_decide_eq_true (by first | (with_reducible assumption) | assumption)
            have q295 : x4_1 < (l0.length : Int) := of_decide_eq_true (by first | (with_reducible assumption) | assumption)
            obtain ⟨ad295, e295, hx295_0, hx295_1, hx295_2⟩ := at_T62 HR0.out x4_1 p295 q295
            have hw295_2 := hx295_2
            have hw295_1 := hx295_1
            have hw295_0 := hx295_0
            cases e295
            replace hx295_0 := (HB.out.cell (World.block_lt_of_cell? w _ hx295_0)).trans hx295_0
            replace hx295_1 := (HB.out.cell (World.block_lt_of_cell? w _ hx295_1)).trans hx295_1
            replace hx295_2 := (HB.out.cell (World.block_lt_of_cell? w _ hx295_2)).trans hx295_2
            replace p295 := eq_true p295
            replace q295 := eq_true q295
            have p296 : 0 ≤ (x4_1 : Int) := of_decide_eq_true (by first | (with_reducible assumption) | assumption)
            have q296 : x4_1 < (l0.length : Int) := of_decide_eq_true (by first | (with_reducible assumption) | assumption)
            obtain ⟨ad296, e296, hx296_0, hx296_1, hx296_2⟩ := at_T62 HR0.out x4_1 p296 q296
            have hw296_2 := hx296_2
            have hw296_1 := hx296_1
            have hw296_0 := hx296_0
            obtain rfl : ad295 = ad296 := (by injection e296)
            replace hx296_0 := (HB.out.cell (World.block_lt_of_cell? w _ hx296_0)).trans hx296_0
            replace hx296_1 := (HB.out.cell (World.block_lt_of_cell? w _ hx296_1)).trans hx296_1
            replace hx296_2 := (HB.out.cell (World.block_lt_of_cell? w _ hx296_2)).trans hx296_2
            replace p296 := eq_true p296
            replace q296 := eq_true q296
            have p297 : 0 ≤ (x4_1 : Int) := of_decide_eq_true (by first | (with_reducible assumption) | assumption)
            have q297 : x4_1 < (l0.length : Int) := of_decide_eq_true (by first | (with_reducible assumption) | assumption)
            obtain ⟨ad297, e297, hx297_0, hx297_1, hx297_2⟩ := at_T62 HR0.out x4_1 p297 q297
            have hw297_2 := hx297_2
            have hw297_1 := hx297_1
            have hw297_0 := hx297_0
            obtain rfl : ad295 = ad297 := (by injection e297)
            replace hx297_0 := (HB.out.cell (World.block_lt_of_cell? w _ hx297_0)).trans hx297_0
            replace hx297_1 := (HB.out.cell (World.block_lt_of_cell? w _ hx297_1)).trans hx297_1
            replace hx297_2 := (HB.out.cell (World.block_lt_of_cell? w _ hx297_2)).trans hx297_2
            replace p297 := eq_true p297
            replace q297 := eq_true q297
            refine start_ (n := 20) (S := fun w' => w'.cell? (ad295.add ((x4_1).toNat * 3)) = some (.string ((rd_T62 l0 x4_1).f0)) ∧ w'.cell? ⟨(ad295.add ((x4_1).toNat * 3)).block, (ad295.add ((x4_1).toNat * 3)).off + 1, none⟩ = some (.string ((rd_T62 l0 x4_1).f1)) ∧ w'.cell? ⟨(ad295.add ((x4_1).toNat * 3)).block, (ad295.add ((x4_1).toNat * 3)).off + 2, none⟩ = some (.bool ((rd_T62 l0 x4_1).f2)) ∧ w'.cell? (ad295.add ((x4_1).toNat * 3)) = some (.string ((rd_T62 l0 x4_1).f0)) ∧ w'.cell? ⟨(ad295.add ((x4_1).toNat * 3)).block, (ad295.add ((x4_1).toNat * 3)).off + 1, none⟩ = some (.string ((rd_T62 l0 x4_1).f1)) ∧ w'.cell? ⟨(ad295.add ((x4_1).toNat * 3)).block, (ad295.add ((x4_1).toNat * 3)).off + 2, none⟩ = some (.bool ((rd_T62 l0 x4_1).f2)) ∧ w'.cell? (ad295.add ((x4_1).toNat * 3)) = some (.string ((rd_T62 l0 x4_1).f0)) ∧ w'.cell? ⟨(ad295.add ((x4_1).toNat * 3)).block, (ad295.add ((x4_1).toNat * 3)).off + 1, none⟩ = some (.string ((rd_T62 l0 x4_1).f1)) ∧ w'.cell? ⟨(ad295.add ((x4_1).toNat * 3)).block, (ad295.add ((x4_1).toNat * 3)).off + 2, none⟩ = some (.bool ((rd_T62 l0 x4_1).f2))) (ds := []) #[false, false, false, false, false, false, false, false, false, false, false, false, false, false, false, false, false, false, false, false] (by kernel_rfl) rfl rfl ⟨((HB.out.cell (World.block_lt_of_cell? w _ hw295_0)).trans hw295_0), ((HB.out.cell (World.block_lt_of_cell? w _ hw295_1)).trans hw295_1), ((HB.out.cell (World.block_lt_of_cell? w _ hw295_2)).trans hw295_2), ((HB.out.cell (World.block_lt_of_cell? w _ hw296_0)).trans hw296_0), ((HB.out.cell (World.block_lt_of_cell? w _ hw296_1)).trans hw296_1), ((HB.out.cell (World.block_lt_of_cell? w _ hw296_2)).trans hw296_2), ((HB.out.cell (World.block_lt_of_cell? w _ hw297_0)).trans hw297_0), ((HB.out.cell (World.block_lt_of_cell? w _ hw297_1)).trans hw297_1), ((HB.out.cell (World.block_lt_of_cell? w _ hw297_2)).trans hw297_2)⟩ (fun hHeld => ?_); refine with_tabW rundlelaw08_Of.tab5 rundlelaw08_Of.bits5 (fun HT_ HW_ => ?_)
            generalize wr.drew = w5 at HO_3 HB hx295_0 hx295_1 hx295_2 hx296_0 hx296_1 hx296_2 hx297_0 hx297_1 hx297_2 hHeld ⊢
            refine pure_ (i := 0) (N := some 11) (v := ?_) (a' := ?_) #[true, false, false, false, false, false, false, false, false, false, false, false, false, false, false, false, false, false, false, false] rfl rfl (any_of HT_.out (by kernel_rfl)) (fun _ _ _ h => h) (Or.inl ⟨by rfl, ?_⟩) ?_ ?_
            rotate_left
            · intro w'
              go_simp
              with_reducible rfl
            rotate_left
            · simp only [Act.put, List.setIfInBounds_toArray, List.set_cons_zero, List.set_cons_succ, i64_w, i32_w]
              rfl
            refine pure_ (i := 1) (N := some 12) (v := ?_) (a' := ?_) #[true, true, false, false, false, false, false, false, false, false, false, false, false, false, false, false, false, false, false, false] rfl rfl (any_of HT_.out (by kernel_rfl)) (fun _ _ _ h => h) (Or.inl ⟨by rfl, ?_⟩) ?_ ?_
            rotate_left
            · intro w'
              go_simp
              with_reducible rfl
            rotate_left
            · simp only [Act.put, List.setIfInBounds_toArray, List.set_cons_zero, List.set_cons_succ, i64_w, i32_w]
              rfl
            refine pure_ (i := 2) (N := some 13) (v := ?_) (a' := ?_) #[true, true, true, false, false, false, false, false, false, false, false, false, false, false, false, false, false, false, false, false] rfl rfl (any_of HT_.out (by kernel_rfl)) (fun _ _ _ h => h) (Or.inl ⟨by rfl, ?_⟩) ?_ ?_
            rotate_left
            · intro w'
              go_simp
              with_reducible rfl
            rotate_left
            · simp only [Act.put, List.setIfInBounds_toArray, List.set_cons_zero, List.set_cons_succ, i64_w, i32_w]
              rfl
            refine pure_ (i := 3) (N := some 14) (v := ?_) (a' := ?_) #[true, true, true, true, false, false, false, false, false, false, false, false, false, false, false, false, false, false, false, false] rfl rfl (any_of HT_.out (by kernel_rfl)) (fun _ _ _ h => h) (Or.inl ⟨by rfl, ?_⟩) ?_ ?_
            rotate_left
            · intro w'
              go_simp
              with_reducible rfl
            rotate_left
            · simp only [Act.put, List.setIfInBounds_toArray, List.set_cons_zero, List.set_cons_succ, i64_w, i32_w]
              rfl
            refine pure_ (i := 4) (N := some 15) (v := ?_) (a' := ?_) #[true, true, true, true, true, false, false, false, false, false, false, false, false, false, false, false, false, false, false, false] rfl rfl (any_of HT_.out (by kernel_rfl)) (fun _ _ _ h => h) (Or.inl ⟨by rfl, ?_⟩) ?_ ?_
            rotate_left
            · intro w'
              go_simp
              with_reducible rfl
            rotate_left
            · simp only [Act.put, List.setIfInBounds_toArray, List.set_cons_zero, List.set_cons_succ, i64_w, i32_w]
              rfl
            refine pure_ (i := 6) (N := some 17) (v := ?_) (a' := ?_) #[true, true, true, true, true, false, true, false, false, false, false, false, false, false, false, false, false, false, false, false] rfl rfl (any_of HT_.out (by kernel_rfl)) (fun _ _ _ h => h) (Or.inl ⟨by rfl, ?_⟩) ?_ ?_
            rotate_left
            · intro w'
              go_simp
              with_reducible rfl
            rotate_left
            · simp only [Act.put, List.setIfInBounds_toArray, List.set_cons_zero, List.set_cons_succ, i64_w, i32_w]
              rfl
            refine pure_ (i := 7) (N := some 18) (v := ?_) (a' := ?_) #[true, true, true, true, true, false, true, true, false, false, false, false, false, false, false, false, false, false, false, false] rfl rfl (any_of HT_.out (by kernel_rfl)) (fun _ _ _ h => h) (Or.inl ⟨by rfl, ?_⟩) ?_ ?_
            rotate_left
            · intro w'
              go_simp
              with_reducible rfl
            rotate_left
            · simp only [Act.put, List.setIfInBounds_toArray, List.set_cons_zero, List.set_cons_succ, i64_w, i32_w]
              rfl
            refine pure_ (i := 8) (N := some 19) (v := ?_) (a' := ?_) #[true, true, true, true, true, false, true, true, true, false, false, false, false, false, false, false, false, false, false, false] rfl rfl (any_of HT_.out (by kernel_rfl)) (fun _ _ _ h => h) (Or.inl ⟨by rfl, ?_⟩) ?_ ?_
            rotate_left
            · intro w'
              go_simp
              with_reducible rfl
            rotate_left
            · simp only [Act.put, List.setIfInBounds_toArray, List.set_cons_zero, List.set_cons_succ, i64_w, i32_w]
              rfl
            refine pure_ (i := 9) (N := some 20) (v := ?_) (a' := ?_) #[true, true, true, true, true, false, true, true, true, true, false, false, false, false, false, false, false, false, false, false] rfl rfl (any_of HT_.out (by kernel_rfl)) (fun _ _ _ h => h) (Or.inl ⟨by rfl, ?_⟩) ?_ ?_
            rotate_left
            · intro w'
              go_simp
              with_reducible rfl
            rotate_left
            · simp only [Act.put, List.setIfInBounds_toArray, List.set_cons_zero, List.set_cons_succ, i64_w, i32_w]
              rfl
            refine pure_ (i := 11) (N := some 22) (v := ?_) (a' := ?_) #[true, true, true, true, true, false, true, true, true, true, false, true, false, false, false, false, false, false, false, false] rfl rfl (any_of HT_.out (by kernel_rfl)) (fun _ _ _ h => h) (Or.inl ⟨by rfl, ?_⟩) ?_ ?_
            rotate_left
            · intro w'
              go_simp
              with_reducible rfl
            rotate_left
            · simp only [Act.put, List.setIfInBounds_toArray, List.set_cons_zero, List.set_cons_succ, i64_w, i32_w]
              rfl
            refine pure_ (i := 12) (N := some 23) (v := ?_) (a' := ?_) #[true, true, true, true, true, false, true, true, true, true, false, true, true, false, false, false, false, false, false, false] rfl rfl (any_of HT_.out (by kernel_rfl)) (fun _ _ _ h => h) (Or.inl ⟨by rfl, ?_⟩) ?_ ?_
            rotate_left
            · intro w'
              go_simp
              with_reducible rfl
            rotate_left
            · simp only [Act.put, List.setIfInBounds_toArray, List.set_cons_zero, List.set_cons_succ, i64_w, i32_w]
              rfl
            refine pure_ (i := 13) (N := some 24) (v := ?_) (a' := ?_) #[true, true, true, true, true, false, true, true, true, true, false, true, true, true, false, false, false, false, false, false] rfl rfl (any_of HT_.out (by kernel_rfl)) (fun _ _ _ h => h) (Or.inl ⟨by rfl, ?_⟩) ?_ ?_
            rotate_left
            · intro w'
              go_simp
              with_reducible rfl
            rotate_left
            · simp only [Act.put, List.setIfInBounds_toArray, List.set_cons_zero, List.set_cons_succ, i64_w, i32_w]
              rfl
            refine pure_ (i := 14) (N := some 25) (v := ?_) (a' := ?_) #[true, true, true, true, true, false, true, true, true, true, false, true, true, true, true, false, false, false, false, false] rfl rfl (any_of HT_.out (by kernel_rfl)) (fun _ _ _ h => h) (Or.inl ⟨by rfl, ?_⟩) ?_ ?_
            rotate_left
            · intro w'
              go_simp
              with_reducible rfl
            rotate_left
            · simp only [Act.put, List.setIfInBounds_toArray, List.set_cons_zero, List.set_cons_succ, i64_w, i32_w]
              rfl
            refine take_ (i := 5) (N := some 16) (v := ?_) (a' := ?_) #[true, true, true, true, true, true, true, true, true, true, false, true, true, true, true, false, false, false, false, false] rfl rfl (take_ofW HT_.out HW_.out (by kernel_rfl)) (fun _ _ _ h => h) (Or.inl ⟨by rfl, ?_⟩) hHeld ?_ ?_
            rotate_left
            · rintro w' ⟨s0, s1, s2, s3, s4, s5, s6, s7, s8⟩
              go_simp
              with_reducible rfl
            rotate_left
            · simp only [Act.put, List.setIfInBounds_toArray, List.set_cons_zero, List.set_cons_succ, i64_w, i32_w]
              rfl
            refine take_ (i := 10) (N := some 21) (v := ?_) (a' := ?_) #[true, true, true, true, true, true, true, true, true, true, true, true, true, true, true, false, false, false, false, false] rfl rfl (take_ofW HT_.out HW_.out (by kernel_rfl)) (fun _ _ _ h => h) (Or.inl ⟨by rfl, ?_⟩) hHeld ?_ ?_
            rotate_left
            · rintro w' ⟨s0, s1, s2, s3, s4, s5, s6, s7, s8⟩
              go_simp
              with_reducible rfl
            rotate_left
            · simp only [Act.put, List.setIfInBounds_toArray, List.set_cons_zero, List.set_cons_succ, i64_w, i32_w]
              rfl
            refine take_ (i := 15) (N := some 26) (v := ?_) (a' := ?_) #[true, true, true, true, true, true, true, true, true, true, true, true, true, true, true, true, false, false, false, false] rfl rfl (take_ofW HT_.out HW_.out (by kernel_rfl)) (fun _ _ _ h => h) (Or.inl ⟨by rfl, ?_⟩) hHeld ?_ ?_
            rotate_left
            · rintro w' ⟨s0, s1, s2, s3, s4, s5, s6, s7, s8⟩
              go_simp
              with_reducible rfl
            rotate_left
            · simp only [Act.put, List.setIfInBounds_toArray, List.set_cons_zero, List.set_cons_succ, i64_w, i32_w]
              rfl
            refine pure_ (i := 16) (N := some 27) (v := ?_) (a' := ?_) #[true, true, true, true, true, true, true, true, true, true, true, true, true, true, true, true, true, false, false, false] rfl rfl (any_of HT_.out (by kernel_rfl)) (fun _ _ _ h => h) (Or.inl ⟨by rfl, ?_⟩) ?_ ?_
            rotate_left
            · intro w'
              go_simp
              with_reducible rfl
            rotate_left
            · simp only [Act.put, List.setIfInBounds_toArray, List.set_cons_zero, List.set_cons_succ, i64_w, i32_w]
              rfl
            refine one_ (i := 17) (N := some 28) #[true, true, true, true, true, true, true, true, true, true, true, true, true, true, true, true, true, true, false, false] rfl rfl (one_of HT_.out (by kernel_rfl)) (by decide) (fun K hK => ?_)
            refine value_ (w1 := ?_) (v := ?_) (by rfl) rfl ?_ ?_
            rotate_left 2
            · go_simp
              constructor
              · rfl
              · rfl
            refine hK.out _ _ ⟨(World.cell?_alloc_lt _ _ _ (World.block_lt_of_cell? _ _ (((HB.out.cell (World.block_lt_of_cell? w _ hw295_0)).trans hw295_0)))).trans (((HB.out.cell (World.block_lt_of_cell? w _ hw295_0)).trans hw295_0)), (World.cell?_alloc_lt _ _ _ (World.block_lt_of_cell? _ _ (((HB.out.cell (World.block_lt_of_cell? w _ hw295_1)).trans hw295_1)))).trans (((HB.out.cell (World.block_lt_of_cell? w _ hw295_1)).trans hw295_1)), (World.cell?_alloc_lt _ _ _ (World.block_lt_of_cell? _ _ (((HB.out.cell (World.block_lt_of_cell? w _ hw295_2)).trans hw295_2)))).trans (((HB.out.cell (World.block_lt_of_cell? w _ hw295_2)).trans hw295_2)), (World.cell?_alloc_lt _ _ _ (World.block_lt_of_cell? _ _ (((HB.out.cell (World.block_lt_of_cell? w _ hw296_0)).trans hw296_0)))).trans (((HB.out.cell (World.block_lt_of_cell? w _ hw296_0)).trans hw296_0)), (World.cell?_alloc_lt _ _ _ (World.block_lt_of_cell? _ _ (((HB.out.cell (World.block_lt_of_cell? w _ hw296_1)).trans hw296_1)))).trans (((HB.out.cell (World.block_lt_of_cell? w _ hw296_1)).trans hw296_1)), (World.cell?_alloc_lt _ _ _ (World.block_lt_of_cell? _ _ (((HB.out.cell (World.block_lt_of_cell? w _ hw296_2)).trans hw296_2)))).trans (((HB.out.cell (World.block_lt_of_cell? w _ hw296_2)).trans hw296_2)), (World.cell?_alloc_lt _ _ _ (World.block_lt_of_cell? _ _ (((HB.out.cell (World.block_lt_of_cell? w _ hw297_0)).trans hw297_0)))).trans (((HB.out.cell (World.block_lt_of_cell? w _ hw297_0)).trans hw297_0)), (World.cell?_alloc_lt _ _ _ (World.block_lt_of_cell? _ _ (((HB.out.cell (World.block_lt_of_cell? w _ hw297_1)).trans hw297_1)))).trans (((HB.out.cell (World.block_lt_of_cell? w _ hw297_1)).trans hw297_1)), (World.cell?_alloc_lt _ _ _ (World.block_lt_of_cell? _ _ (((HB.out.cell (World.block_lt_of_cell? w _ hw297_2)).trans hw297_2)))).trans (((HB.out.cell (World.block_lt_of_cell? w _ hw297_2)).trans hw297_2))⟩ (fun hHeld => ?_)
            clear hK K
            refine norm_ (a' := ?_) ?_ ?_
            rotate_left
            · show Act.put _ (some 28) _ = _
              simp only [Act.put, List.setIfInBounds_toArray, List.set_cons_zero, List.set_cons_succ, i64_w, i32_w]
              rfl
            refine one_ (i := 18) (N := some 29) #[true, true, true, true, true, true, true, true, true, true, true, true, true, true, true, true, true, true, true, false] rfl rfl (one_of HT_.out (by kernel_rfl)) (by decide) (fun K hK => ?_)
            refine Kd.R_append_step k114 (w0 := w) w.heap.size (by rfl) (.tmp 11) (.tmp 28) 42 114 (.agg #[(.string ⟨#[]⟩), (.string ⟨#[]⟩), (.bool false)]) 40 rfl Try.underlying42 info114 rfl (by decide) (by omega) u3 x3_1 (⟨(rd_T62 l0 x4_1).f0, (rd_T62 l0 x4_1).f1, (rd_T62 l0 x4_1).f2⟩ : S114) [.string ((rd_T62 l0 x4_1).f0), .string ((rd_T62 l0 x4_1).f1), .bool ((rd_T62 l0 x4_1).f2)] (fun _ => True) (fun _ => False) rfl rfl ?aP (fun _ hk => hk.elim) ?aF ?aO ?aB ?aS ?aL ?_
            (case aP => exact k114_mkM _ _ _ (⟨(rd_T62 l0 x4_1).f0, (rd_T62 l0 x4_1).f1, (rd_T62 l0 x4_1).f2⟩ : S114))
            (case aB => exact (by repeat (first | (with_reducible first | exact HB.out | apply below_alloc | apply pw_below_drewN | apply below_drew1) | exact HB.out)))
            (case aF => exact (fun _ _ => trivial))
            (case aO => exact (by (with_reducible repeat (first | apply Kd.R_alloc | apply Kd.R_drewN | apply Kd.R_drew)); exact HO_3.out))
            (case aS => exact (below_size (by repeat (first | (with_reducible first | exact HB.out | apply below_alloc | apply pw_below_drewN | apply below_drew1) | exact HB.out))))
            (case aL => have := LMc4.out; omega)
            intro v299 w6 ho hb hg hat
            rw [← Ny298.out] at ho
            have n0_ := Aside0.mk (hb)
            have n1_ := Aside0.mk (ho)
            clear HB
            clear HO_3
            have HB := n0_
            have HO300 := n1_
            clear n0_ n1_
            clear ho hb hg hat
            refine hK.out _ _ ⟨((HB.out.cell (World.block_lt_of_cell? w _ hw295_0)).trans hw295_0), ((HB.out.cell (World.block_lt_of_cell? w _ hw295_1)).trans hw295_1), ((HB.out.cell (World.block_lt_of_cell? w _ hw295_2)).trans hw295_2), ((HB.out.cell (World.block_lt_of_cell? w _ hw296_0)).trans hw296_0), ((HB.out.cell (World.block_lt_of_cell? w _ hw296_1)).trans hw296_1), ((HB.out.cell (World.block_lt_of_cell? w _ hw296_2)).trans hw296_2), ((HB.out.cell (World.block_lt_of_cell? w _ hw297_0)).trans hw297_0), ((HB.out.cell (World.block_lt_of_cell? w _ hw297_1)).trans hw297_1), ((HB.out.cell (World.block_lt_of_cell? w _ hw297_2)).trans hw297_2)⟩ (fun hHeld => ?_)
            clear hK K
            refine norm_ (a' := ?_) ?_ ?_
            rotate_left
            · show Act.put _ (some 29) _ = _
              simp only [Act.put, List.setIfInBounds_toArray, List.set_cons_zero, List.set_cons_succ, i64_w, i32_w]
              rfl
            refine pure_ (i := 19) (N := some 3) (v := ?_) (a' := ?_) #[true, true, true, true, true, true, true, true, true, true, true, true, true, true, true, true, true, true, true, true] rfl rfl (any_of HT_.out (by kernel_rfl)) (fun _ _ _ h => h) (Or.inl ⟨by rfl, ?_⟩) ?_ ?_
            rotate_left
            · intro w'
              go_simp
              with_reducible rfl
            rotate_left
            · simp only [Act.put, List.setIfInBounds_toArray, List.set_cons_zero, List.set_cons_succ, i64_w, i32_w]
              rfl
            refine done_ (done_of HT_.out (by kernel_rfl)) ?_
            try go_wp2
            go_roundg k1
            case measure => have := HK1.out; omega
            case rel => exact ⟨(y298), (wrap64 (x4_1 + 1)), (by first | rfl | (simp; done) | (simp [*]; done)), H', ⟨by have := HK1.out; omega⟩, ⟨by (with_reducible repeat (first | apply Kd.R_alloc | apply Kd.R_drewN | apply Kd.R_drew)); exact HO300.out⟩, ⟨by repeat (first | (with_reducible first | exact HB.out | apply below_alloc | apply pw_below_drewN | apply below_drew1) | exact HB.out)⟩⟩
          · rw [if_neg c4] at H
            exact absurd H (by simp)
        · rw [if_neg c3] at H
          exact absurd H (by simp)
      · rw [if_neg c2] at H
        have c2b0 : decide (x4_1 < (l0.length : Int)) = false := decide_eq_false c2
        clear c2
        obtain rfl := Option.some.inj H
        go_wp2
        go_ret
        exact ⟨_, by first | rfl | (simp [errW_none, errW_some] <;> rfl) | (simp [*, errW_none, errW_some] <;> rfl), by (with_reducible repeat (first | apply Kd.R_alloc | apply Kd.R_drewN | apply Kd.R_drew)); exact HO_3.out, by repeat (first | (with_reducible first | exact HB.out | apply below_alloc | apply pw_below_drewN | apply below_drew1) | exact HB.out)⟩
/-! ### rev_Pairs: function 29 -/
def rev_Pairs.l0 : Nat → Int → List (S129) → List ByteArray → Int → Int → Int → Int → ByteArray → ByteArray → Bool → Bool → List ByteArray → List ByteArray → List Bool → List Int → ByteArray → ByteArray → Bool → Option ((List (S129)))
  | 0, _, _, _, _, _, _, _, _, _, _, _, _, _, _, _, _, _, _ => none
  | k + 1, x2, x7, x11, x12, x13, x302000, x302001, x302002, x302003, x302004, x302005, x302006, x302007, x302008, x302009, x303000, x303001, x303002 => if x13 < x12 then (if 0 ≤ x13 then (if x13 < (x11.length : Int) then (if (x7.length : Int) ≥ x2 then (some x7) else (if x13 < (x302008.length : Int) then (if rdOf false x302008 x13 = true then (rev_Pairs.l0 k x2 x7 x11 x12 (wrap64 (x13 + 1)) x302000 x302001 x302002 x302003 x302004 x302005 x302006 x302007 x302008 x302009 x303000 x303001 x303002) else ((key_Has.f x303000 x303001 x303002 (rdOf ByteArray.empty x11 x13)).bind fun t305 => (if t305 = true then (if x13 < (x302007.length : Int) then (if x7.length < 4398046511104 then (rev_Pairs.l0 k x2 (x7 ++ [(⟨rdOf ByteArray.empty x11 x13, rdOf ByteArray.empty x302007 x13⟩ : S129)]) x11 x12 (wrap64 (x13 + 1)) x302000 x302001 x302002 x302003 x302004 x302005 x302006 x302007 x302008 x302009 x303000 x303001 x303002) else (none)) else (none)) else (rev_Pairs.l0 k x2 x7 x11 x12 (wrap64 (x13 + 1)) x302000 x302001 x302002 x302003 x302004 x302005 x302006 x302007 x302008 x302009 x303000 x303001 x303002)))) else (none))) else (none)) else (none)) else (some x7)
def rev_Pairs.f (k : Nat) (a0_0 : Int) (a0_1 : Int) (a0_2 : ByteArray) (a0_3 : ByteArray) (a0_4 : Bool) (a0_5 : Bool) (l0_6 : List ByteArray) (l0_7 : List ByteArray) (l0_8 : List Bool) (l0_9 : List Int) (a1_0 : ByteArray) (a1_1 : ByteArray) (a1_2 : Bool) (a2 : Int) : Option ((List (S129))) := rev_Pairs.l0 k a2 ([] : List (S129)) l0_6 (l0_6.length : Int) 0 a0_0 a0_1 a0_2 a0_3 a0_4 a0_5 l0_6 l0_7 l0_8 l0_9 a1_0 a1_1 a1_2
theorem rev_Pairs.mono_l : ∀ k, (∀ y0 y1 y2 y3 y4 y5 y6 y7 y8 y9 y10 y11 y12 y13 y14 y15 y16 y17, LeO (rev_Pairs.l0 k y0 y1 y2 y3 y4 y5 y6 y7 y8 y9 y10 y11 y12 y13 y14 y15 y16 y17) (rev_Pairs.l0 (k + 1) y0 y1 y2 y3 y4 y5 y6 y7 y8 y9 y10 y11 y12 y13 y14 y15 y16 y17))
  | 0 => fun _ _ _ _ _ _ _ _ _ _ _ _ _ _ _ _ _ _ r h => by simp [rev_Pairs.l0] at h
  | k + 1 => by
    have ih0 := rev_Pairs.mono_l k
    · intro y0 y1 y2 y3 y4 y5 y6 y7 y8 y9 y10 y11 y12 y13 y14 y15 y16 y17
      unfold rev_Pairs.l0
      repeat' first
      | (with_reducible exact ih0 _ _ _ _ _ _ _ _ _ _ _ _ _ _ _ _ _ _)
      | (with_reducible exact LeO.refl _)
      | (with_reducible exact LeO.none _)
      | (with_reducible refine LeO.ite ?_ ?_)
      | (with_reducible refine LeO.bind ?_ (fun _ => ?_))
      | exact ih0 _ _ _ _ _ _ _ _ _ _ _ _ _ _ _ _ _ _
      | exact LeO.none _
      | refine LeO.ite ?_ ?_
      | refine LeO.bind ?_ (fun _ => ?_)
theorem rev_Pairs.mono : ∀ a0 a1 a2 a3 a4 a5 a6 a7 a8 a9 a10 a11 a12 a13 k, LeO (rev_Pairs.f k a0 a1 a2 a3 a4 a5 a6 a7 a8 a9 a10 a11 a12 a13) (rev_Pairs.f (k + 1) a0 a1 a2 a3 a4 a5 a6 a7 a8 a9 a10 a11 a12 a13) := by
  intro a0 a1 a2 a3 a4 a5 a6 a7 a8 a9 a10 a11 a12 a13 k
  have ih0 := rev_Pairs.mono_l k
  unfold rev_Pairs.f
  repeat' first
      | (with_reducible exact ih0 _ _ _ _ _ _ _ _ _ _ _ _ _ _ _ _ _ _)
      | (with_reducible exact LeO.refl _)
      | (with_reducible exact LeO.none _)
      | (with_reducible refine LeO.ite ?_ ?_)
      | (with_reducible refine LeO.bind ?_ (fun _ => ?_))
      | exact ih0 _ _ _ _ _ _ _ _ _ _ _ _ _ _ _ _ _ _
      | exact LeO.none _
      | refine LeO.ite ?_ ?_
      | refine LeO.bind ?_ (fun _ => ?_)
set_option maxHeartbeats 8000000 in
set_option maxRecDepth 100000 in
theorem rev_Pairs.calls (k : Nat) (a0_0 : Int) (a0_1 : Int) (a0_2 : ByteArray) (a0_3 : ByteArray) (a0_4 : Bool) (a0_5 : Bool) (A0_6 : Option Addr) (c0_6 : Nat) (l0_6 : List ByteArray) (A0_7 : Option Addr) (c0_7 : Nat) (l0_7 : List ByteArray) (A0_8 : Option Addr) (c0_8 : Nat) (l0_8 : List Bool) (A0_9 : Option Addr) (c0_9 : Nat) (l0_9 : List Int) (a1_0 : ByteArray) (a1_1 : ByteArray) (a1_2 : Bool) (a2 : Int) (r : List (S129)) (w : World) (hr0_6 : Kd.C Kd.string w A0_6 l0_6.length l0_6) (hc0_6 : l0_6.length ≤ c0_6) (hr0_7 : Kd.C Kd.string w A0_7 l0_7.length l0_7) (hc0_7 : l0_7.length ≤ c0_7) (hr0_8 : Kd.C Kd.bool w A0_8 l0_8.length l0_8) (hc0_8 : l0_8.length ≤ c0_8) (hr0_9 : Kd.C (Kd.int .i64) w A0_9 l0_9.length l0_9) (hc0_9 : l0_9.length ≤ c0_9) (h : rev_Pairs.f k a0_0 a0_1 a0_2 a0_3 a0_4 a0_5 l0_6 l0_7 l0_8 l0_9 a1_0 a1_1 a1_2 a2 = some r) :
    Calls Try.prog 29 #[.agg #[.int .i64 a0_0, .int .i64 a0_1, .string a0_2, .string a0_3, .bool a0_4, .bool a0_5, .slice A0_6 l0_6.length c0_6, .slice A0_7 l0_7.length c0_7, .slice A0_8 l0_8.length c0_8, .slice A0_9 l0_9.length c0_9], .agg #[.string a1_0, .string a1_1, .bool a1_2], .int .i64 a2] w fun e w' => ∃ v0_ : Value, e = .returned (v0_) ∧ Kd.R k129 129 w' w.heap.size (fun _ => True) v0_ r ∧ Below w.heap.size w w' := by
  have hu37 := Try.underlying37
  have hu32 := Try.underlying32
  have hu129 := Try.underlying129
  have HR0_6 := Aside0.mk hr0_6
  have HC0_6 := Aside0.mk hc0_6
  clear hr0_6 hc0_6
  have HR0_7 := Aside0.mk hr0_7
  have HC0_7 := Aside0.mk hc0_7
  clear hr0_7 hc0_7
  have HR0_8 := Aside0.mk hr0_8
  have HC0_8 := Aside0.mk hc0_8
  clear hr0_8 hc0_8
  have HR0_9 := Aside0.mk hr0_9
  have HC0_9 := Aside0.mk hc0_9
  clear hr0_9 hc0_9
  have HB := Aside0.mk (Below.refl w.heap.size w)
  have H : (rev_Pairs.l0 k a2 ([] : List (S129)) l0_6 (l0_6.length : Int) 0 a0_0 a0_1 a0_2 a0_3 a0_4 a0_5 l0_6 l0_7 l0_8 l0_9 a1_0 a1_1 a1_2) = some r := h
  clear h
  have H' := Aside0.mk H
  clear H
  go_enter Try.func29, Try.ntmps29
  go_wp2_with (first | ((with_reducible refine gate_dst (N := 3) rfl ?_); refine box_event ?hg (N := 3) ?hd (cs := #[.int .i64 a0_0, .int .i64 a0_1, .string a0_2, .string a0_3, .bool a0_4, .bool a0_5, .slice A0_6 l0_6.length c0_6, .slice A0_7 l0_7.length c0_7, .slice A0_8 l0_8.length c0_8, .slice A0_9 l0_9.length c0_9]) (t := 37) ?hr ?_; (case hd => rfl); (case hg => rfl); (case hr => first | (go_simp; done) | (go_simp; rfl)); intro gb301 hg w4 hbox hb; have n0_ := Aside0.mk (below_step (by repeat (first | (with_reducible first | exact HB.out | apply below_alloc | apply pw_below_drewN | apply below_drew1) | exact HB.out)) hb); have n1_ := Aside0.mk (hbox); have n2_ := Aside0.mk ((by rw [hg]; exact (below_size (by repeat (first | (with_reducible first | exact HB.out | apply below_alloc | apply pw_below_drewN | apply below_drew1) | exact HB.out))) : w.heap.size ≤ gb301)); have n3_ := Aside0.mk ((by rw [hg]; exact (below_size (by repeat (first | (with_reducible first | exact HB.out | apply below_alloc | apply pw_below_drewN | apply below_drew1) | exact HB.out))) : w.heap.size ≤ gb301)); clear HB; have HB := n0_; have BK301 := n1_; have GW301 := n2_; have GE301 := n3_; clear n0_ n1_ n2_ n3_; clear hb hbox hg) | ((with_reducible refine gate_dst (N := 4) rfl ?_); refine box_event ?hg (N := 4) ?hd (cs := #[.string a1_0, .string a1_1, .bool a1_2]) (t := 32) ?hr ?_; (case hd => rfl); (case hg => rfl); (case hr => first | (go_simp; done) | (go_simp; rfl)); intro gb302 hg w5 hbox hb; have n0_ := Aside0.mk (blk_below (g := gb301) (o := .cells #[.int .i64 a0_0, .int .i64 a0_1, .string a0_2, .string a0_3, .bool a0_4, .bool a0_5, .slice A0_6 l0_6.length c0_6, .slice A0_7 l0_7.length c0_7, .slice A0_8 l0_8.length c0_8, .slice A0_9 l0_9.length c0_9] 37 (0, 0)) (by (with_reducible repeat (first | refine blk_drewN ?_ _ | refine blk_drew ?_ | refine blk_alloc ?_ _)); exact BK301.out) hb); have n1_ := Aside0.mk (below_step (by repeat (first | (with_reducible first | exact HB.out | apply below_alloc | apply pw_below_drewN | apply below_drew1 | refine below_set ?_ GE301.out) | exact HB.out)) hb); have n2_ := Aside0.mk (hbox); have n3_ := Aside0.mk ((by rw [hg]; exact (below_size (by repeat (first | (with_reducible first | exact HB.out | apply below_alloc | apply pw_below_drewN | apply below_drew1 | refine below_set ?_ GE301.out) | exact HB.out))) : w.heap.size ≤ gb302)); have n4_ := Aside0.mk ((by rw [hg]; exact (below_size (by repeat (first | (with_reducible first | exact HB.out | apply below_alloc | apply pw_below_drewN | apply below_drew1 | refine below_set ?_ GE301.out) | exact HB.out))) : w.heap.size ≤ gb302)); have n5_ := Aside0.mk ((by rw [hg]; exact Nat.ne_of_lt (blk_lt (g := gb301) (o := .cells #[.int .i64 a0_0, .int .i64 a0_1, .string a0_2, .string a0_3, .bool a0_4, .bool a0_5, .slice A0_6 l0_6.length c0_6, .slice A0_7 l0_7.length c0_7, .slice A0_8 l0_8.length c0_8, .slice A0_9 l0_9.length c0_9] 37 (0, 0)) (by (with_reducible repeat (first | refine blk_drewN ?_ _ | refine blk_drew ?_ | refine blk_alloc ?_ _)); exact BK301.out)) : gb301 ≠ gb302)); have n6_ := Aside0.mk ((by rw [hg]; exact Nat.ne_of_gt (blk_lt (g := gb301) (o := .cells #[.int .i64 a0_0, .int .i64 a0_1, .string a0_2, .string a0_3, .bool a0_4, .bool a0_5, .slice A0_6 l0_6.length c0_6, .slice A0_7 l0_7.length c0_7, .slice A0_8 l0_8.length c0_8, .slice A0_9 l0_9.length c0_9] 37 (0, 0)) (by (with_reducible repeat (first | refine blk_drewN ?_ _ | refine blk_drew ?_ | refine blk_alloc ?_ _)); exact BK301.out)) : gb302 ≠ gb301)); clear BK301; clear HB; have BK301 := n0_; have HB := n1_; have BK302 := n2_; have GW302 := n3_; have GE302 := n4_; have NB301_302 := n5_; have NB302_301 := n6_; clear n0_ n1_ n2_ n3_ n4_ n5_ n6_; clear hb hbox hg; have hnb6 := NB301_302.out; have hnc6 := NB302_301.out; have hcz7_0 : w5.cell? ⟨gb301, 0, none⟩ = some (.int .i64 a0_0) := (blk_cell BK301.out 0).trans rfl; have hcz7_1 : w5.cell? ⟨gb301, 1, none⟩ = some (.int .i64 a0_1) := (blk_cell BK301.out 1).trans rfl; have hcz7_2 : w5.cell? ⟨gb301, 2, none⟩ = some (.string a0_2) := (blk_cell BK301.out 2).trans rfl; have hcz7_3 : w5.cell? ⟨gb301, 3, none⟩ = some (.string a0_3) := (blk_cell BK301.out 3).trans rfl; have hcz7_4 : w5.cell? ⟨gb301, 4, none⟩ = some (.bool a0_4) := (blk_cell BK301.out 4).trans rfl; have hcz7_5 : w5.cell? ⟨gb301, 5, none⟩ = some (.bool a0_5) := (blk_cell BK301.out 5).trans rfl; have hcz7_6 : w5.cell? ⟨gb301, 6, none⟩ = some (.slice A0_6 l0_6.length c0_6) := (blk_cell BK301.out 6).trans rfl; have hcz7_7 : w5.cell? ⟨gb301, 7, none⟩ = some (.slice A0_7 l0_7.length c0_7) := (blk_cell BK301.out 7).trans rfl; have hcz7_8 : w5.cell? ⟨gb301, 8, none⟩ = some (.slice A0_8 l0_8.length c0_8) := (blk_cell BK301.out 8).trans rfl; have hcz7_9 : w5.cell? ⟨gb301, 9, none⟩ = some (.slice A0_9 l0_9.length c0_9) := (blk_cell BK301.out 9).trans rfl; have hfz7_0 := blk_frozen BK301.out 0; have hfz7_1 := blk_frozen BK301.out 1; have hfz7_2 := blk_frozen BK301.out 2; have hfz7_3 := blk_frozen BK301.out 3; have hfz7_4 := blk_frozen BK301.out 4; have hfz7_5 := blk_frozen BK301.out 5; have hfz7_6 := blk_frozen BK301.out 6; have hfz7_7 := blk_frozen BK301.out 7; have hfz7_8 := blk_frozen BK301.out 8; have hfz7_9 := blk_frozen BK301.out 9))
  go_loopg [7, 13] k (fun kq v7 v13 w' => ∃ (x7_1 : List (S129)) (x13_1 : Int), v13 = .int .i64 x13_1 ∧ Aside0 (rev_Pairs.l0 kq a2 x7_1 l0_6 (l0_6.length : Int) x13_1 a0_0 a0_1 a0_2 a0_3 a0_4 a0_5 l0_6 l0_7 l0_8 l0_9 a1_0 a1_1 a1_2 = some r) ∧ Aside0 (kq ≤ k) ∧ Aside0 (Kd.R k129 129 w' w.heap.size (fun _ => True) v7 x7_1) ∧ Aside0 (w'.heap[gb301]? = some (.cells #[.int .i64 a0_0, .int .i64 a0_1, .string a0_2, .string a0_3, .bool a0_4, .bool a0_5, (.slice A0_6 l0_6.length c0_6), (.slice A0_7 l0_7.length c0_7), (.slice A0_8 l0_8.length c0_8), (.slice A0_9 l0_9.length c0_9)] 37 (0, 0))) ∧ Aside0 (w'.heap[gb302]? = some (.cells #[.string a1_0, .string a1_1, .bool a1_2] 32 (0, 0))) ∧ Aside0 (Below w.heap.size w w'))
  case atStart => exact ⟨(([] : List (S129))), (0), (by first | rfl | (simp; done) | (simp [*]; done)), H', ⟨Nat.le_refl _⟩, ⟨by first | exact Kd.R_nil _ _ _ _ _ | exact Kd.N_nil _ _ _ _ _ | exact Kd.V_nil _ _ _ _ _ | exact Kd.Q_nil _ _ _ _ _ | exact Kd.S_nil _ _ _ _ _⟩, ⟨by (with_reducible repeat (first | refine blk_drewN ?_ _ | refine blk_drew ?_ | refine blk_alloc ?_ _)); exact BK301.out⟩, ⟨by (with_reducible repeat (first | refine blk_drewN ?_ _ | refine blk_drew ?_ | refine blk_alloc ?_ _)); exact BK302.out⟩, ⟨by repeat (first | (with_reducible first | exact HB.out | apply below_alloc | apply pw_below_drewN | apply below_drew1 | refine below_set ?_ GE301.out | refine below_set ?_ GE302.out) | exact HB.out)⟩⟩
  case round =>
    clear H'
    try clear c2
    try clear p2
    try clear c6
    try clear hcz7_0
    try clear hcz7_1
    try clear hcz7_2
    try clear hcz7_3
    try clear hcz7_4
    try clear hcz7_5
    try clear hcz7_6
    try clear hcz7_7
    try clear hcz7_8
    try clear hcz7_9
    try clear hfz7_0
    try clear hfz7_1
    try clear hfz7_2
    try clear hfz7_3
    try clear hfz7_4
    try clear hfz7_5
    try clear hfz7_6
    try clear hfz7_7
    try clear hfz7_8
    try clear hfz7_9
    obtain ⟨x7_1, x13_1, rfl, HA, HK1, HO_7, BK301, BK302, HB⟩ := hrel
    cases gk with
    | zero => exact absurd HA.out (by simp [rev_Pairs.l0])
    | succ k1 =>
      have H := HA.out
      clear HA
      simp only [rev_Pairs.l0] at H
      by_cases c8 : x13_1 < (l0_6.length : Int)
      · rw [if_pos c8] at H
        have c8b0 : decide (x13_1 < (l0_6.length : Int)) = true := decide_eq_true c8
        clear c8
        by_cases c9 : 0 ≤ x13_1
        · rw [if_pos c9] at H
          have c9b0 : decide (0 ≤ x13_1) = true := decide_eq_true c9
          clear c9
          by_cases c10 : x13_1 < (l0_6.length : Int)
          · rw [if_pos c10] at H
            have c10b0 : decide (x13_1 < (l0_6.length : Int)) = true := decide_eq_true c10
            clear c10
            by_cases c11 : (x7_1.length : Int) ≥ a2
            · rw [if_pos c11] at H
              have c11b0 : decide (a2 ≤ (x7_1.length : Int)) = true := decide_eq_true c11
              clear c11
              obtain rfl := Option.some.inj H
              have p303 : 0 ≤ (x13_1 : Int) := of_decide_eq_true (by first | (with_reducible assumption) | assumption)
              have q303 : x13_1 < (l0_6.length : Int) := of_decide_eq_true (by first | (with_reducible assumption) | assumption)
              obtain ⟨ad303, e303, hx303_0⟩ := Kd.at_string HR0_6.out x13_1 p303 q303
              cases e303
              replace hx303_0 := (HB.out.cell (World.block_lt_of_cell? w _ hx303_0)).trans hx303_0
              replace p303 := eq_true p303
              replace q303 := eq_true q303
              obtain ⟨Ao12, co12, eo12⟩ := Kd.R_slice HO_7.out
              subst eo12
              go_wp2
              go_ret
              exact ⟨_, by first | rfl | (simp [errW_none, errW_some] <;> rfl) | (simp [*, errW_none, errW_some] <;> rfl), by (with_reducible repeat (first | apply Kd.R_alloc | apply Kd.R_drewN | apply Kd.R_drew)); exact HO_7.out, by repeat (first | (with_reducible first | exact HB.out | apply below_alloc | apply pw_below_drewN | apply below_drew1 | refine below_set ?_ GE301.out | refine below_set ?_ GE302.out) | exact HB.out)⟩
            · rw [if_neg c11] at H
              have c11b0 : decide (a2 ≤ (x7_1.length : Int)) = false := decide_eq_false c11
              clear c11
              by_cases c13 : x13_1 < (l0_8.length : Int)
              · rw [if_pos c13] at H
                have c13b0 : decide (x13_1 < (l0_8.length : Int)) = true := decide_eq_true c13
                clear c13
                obtain ⟨bq14, hbq14⟩ : ∃ b_ : Bool, b_ = (rdOf false l0_8 x13_1) := ⟨_, rfl⟩
                replace H : (if bq14 = true then (rev_Pairs.l0 k1 a2 x7_1 l0_6 (l0_6.length : Int) (wrap64 (x13_1 + 1)) a0_0 a0_1 a0_2 a0_3 a0_4 a0_5 l0_6 l0_7 l0_8 l0_9 a1_0 a1_1 a1_2) else ((key_Has.f a1_0 a1_1 a1_2 (rdOf ByteArray.empty l0_6 x13_1)).bind fun t305 => (if t305 = true then (if x13_1 < (l0_7.length : Int) then (if x7_1.length < 4398046511104 then (rev_Pairs.l0 k1 a2 (x7_1 ++ [(⟨rdOf ByteArray.empty l0_6 x13_1, rdOf ByteArray.empty l0_7 x13_1⟩ : S129)]) l0_6 (l0_6.length : Int) (wrap64 (x13_1 + 1)) a0_0 a0_1 a0_2 a0_3 a0_4 a0_5 l0_6 l0_7 l0_8 l0_9 a1_0 a1_1 a1_2) else (none)) else (none)) else (rev_Pairs.l0 k1 a2 x7_1 l0_6 (l0_6.length : Int) (wrap64 (x13_1 + 1)) a0_0 a0_1 a0_2 a0_3 a0_4 a0_5 l0_6 l0_7 l0_8 l0_9 a1_0 a1_1 a1_2)))) = some r := by rw [← hbq14] at H; exact H
                have Nbq14 := Aside0.mk hbq14
                clear hbq14
                by_cases c15 : bq14 = true
                · subst c15
                  have H1 : (rev_Pairs.l0 k1 a2 x7_1 l0_6 (l0_6.length : Int) (wrap64 (x13_1 + 1)) a0_0 a0_1 a0_2 a0_3 a0_4 a0_5 l0_6 l0_7 l0_8 l0_9 a1_0 a1_1 a1_2) = some r := by rw [if_pos rfl] at H; exact H
                  clear H
                  have H := H1
                  clear H1
                  have H' := Aside0.mk H
                  clear H
                  have p303 : 0 ≤ (x13_1 : Int) := of_decide_eq_true (by first | (with_reducible assumption) | assumption)
                  have q303 : x13_1 < (l0_6.length : Int) := of_decide_eq_true (by first | (with_reducible assumption) | assumption)
                  obtain ⟨ad303, e303, hx303_0⟩ := Kd.at_string HR0_6.out x13_1 p303 q303
                  cases e303
                  replace hx303_0 := (HB.out.cell (World.block_lt_of_cell? w _ hx303_0)).trans hx303_0
                  replace p303 := eq_true p303
                  replace q303 := eq_true q303
                  obtain ⟨Ao16, co16, eo16⟩ := Kd.R_slice HO_7.out
                  subst eo16
                  have hnb17 := NB301_302.out
                  have hnc17 := NB302_301.out
                  have hcz18_0 : wr.cell? ⟨gb301, 0, none⟩ = some (.int .i64 a0_0) := (blk_cell BK301.out 0).trans rfl
                  have hcz18_1 : wr.cell? ⟨gb301, 1, none⟩ = some (.int .i64 a0_1) := (blk_cell BK301.out 1).trans rfl
                  have hcz18_2 : wr.cell? ⟨gb301, 2, none⟩ = some (.string a0_2) := (blk_cell BK301.out 2).trans rfl
                  have hcz18_3 : wr.cell? ⟨gb301, 3, none⟩ = some (.string a0_3) := (blk_cell BK301.out 3).trans rfl
                  have hcz18_4 : wr.cell? ⟨gb301, 4, none⟩ = some (.bool a0_4) := (blk_cell BK301.out 4).trans rfl
                  have hcz18_5 : wr.cell? ⟨gb301, 5, none⟩ = some (.bool a0_5) := (blk_cell BK301.out 5).trans rfl
                  have hcz18_6 : wr.cell? ⟨gb301, 6, none⟩ = some (.slice (some ad303) l0_6.length c0_6) := (blk_cell BK301.out 6).trans rfl
                  have hcz18_7 : wr.cell? ⟨gb301, 7, none⟩ = some (.slice A0_7 l0_7.length c0_7) := (blk_cell BK301.out 7).trans rfl
                  have hcz18_8 : wr.cell? ⟨gb301, 8, none⟩ = some (.slice A0_8 l0_8.length c0_8) := (blk_cell BK301.out 8).trans rfl
                  have hcz18_9 : wr.cell? ⟨gb301, 9, none⟩ = some (.slice A0_9 l0_9.length c0_9) := (blk_cell BK301.out 9).trans rfl
                  have hfz18_0 := blk_frozen BK301.out 0
                  have hfz18_1 := blk_frozen BK301.out 1
                  have hfz18_2 := blk_frozen BK301.out 2
                  have hfz18_3 := blk_frozen BK301.out 3
                  have hfz18_4 := blk_frozen BK301.out 4
                  have hfz18_5 := blk_frozen BK301.out 5
                  have hfz18_6 := blk_frozen BK301.out 6
                  have hfz18_7 := blk_frozen BK301.out 7
                  have hfz18_8 := blk_frozen BK301.out 8
                  have hfz18_9 := blk_frozen BK301.out 9
                  have p304 : 0 ≤ (x13_1 : Int) := of_decide_eq_true (by first | (with_reducible assumption) | assumption)
                  have q304 : x13_1 < (l0_8.length : Int) := of_decide_eq_true (by first | (with_reducible assumption) | assumption)
                  obtain ⟨ad304, e304, hx304_0⟩ := Kd.at_bool HR0_8.out x13_1 p304 q304
                  (try rw [← Nbq14.out] at hx304_0)
                  cases e304
                  replace hx304_0 := (HB.out.cell (World.block_lt_of_cell? w _ hx304_0)).trans hx304_0
                  replace p304 := eq_true p304
                  replace q304 := eq_true q304
                  go_wp2
                  go_roundg k1
                  case measure => have := HK1.out; omega
                  case rel => exact ⟨(x7_1), (wrap64 (x13_1 + 1)), (by first | rfl | (simp; done) | (simp [*]; done)), H', ⟨by have := HK1.out; omega⟩, ⟨by (with_reducible repeat (first | apply Kd.R_alloc | apply Kd.R_drewN | apply Kd.R_drew)); exact HO_7.out⟩, ⟨by (with_reducible repeat (first | refine blk_drewN ?_ _ | refine blk_drew ?_ | refine blk_alloc ?_ _)); exact BK301.out⟩, ⟨by (with_reducible repeat (first | refine blk_drewN ?_ _ | refine blk_drew ?_ | refine blk_alloc ?_ _)); exact BK302.out⟩, ⟨by repeat (first | (with_reducible first | exact HB.out | apply below_alloc | apply pw_below_drewN | apply below_drew1 | refine below_set ?_ GE301.out | refine below_set ?_ GE302.out) | exact HB.out)⟩⟩
                · replace c15 := Bool.eq_false_iff.mpr c15
                  subst c15
                  have H1 : ((key_Has.f a1_0 a1_1 a1_2 (rdOf ByteArray.empty l0_6 x13_1)).bind fun t305 => (if t305 = true then (if x13_1 < (l0_7.length : Int) then (if x7_1.length < 4398046511104 then (rev_Pairs.l0 k1 a2 (x7_1 ++ [(⟨rdOf ByteArray.empty l0_6 x13_1, rdOf ByteArray.empty l0_7 x13_1⟩ : S129)]) l0_6 (l0_6.length : Int) (wrap64 (x13_1 + 1)) a0_0 a0_1 a0_2 a0_3 a0_4 a0_5 l0_6 l0_7 l0_8 l0_9 a1_0 a1_1 a1_2) else (none)) else (none)) else (rev_Pairs.l0 k1 a2 x7_1 l0_6 (l0_6.length : Int) (wrap64 (x13_1 + 1)) a0_0 a0_1 a0_2 a0_3 a0_4 a0_5 l0_6 l0_7 l0_8 l0_9 a1_0 a1_1 a1_2))) = some r := by rw [if_neg (show ¬ (false = true) by decide)] at H; exact H
                  clear H
                  have H := H1
                  clear H1
                  replace H := Option.bind_eq_some_iff.mp H
                  obtain ⟨t305, A190, H⟩ := H
                  replace H : (if t305 = true then (if x13_1 < (l0_7.length : Int) then (if x7_1.length < 4398046511104 then (rev_Pairs.l0 k1 a2 (x7_1 ++ [(⟨rdOf ByteArray.empty l0_6 x13_1, rdOf ByteArray.empty l0_7 x13_1⟩ : S129)]) l0_6 (l0_6.length : Int) (wrap64 (x13_1 + 1)) a0_0 a0_1 a0_2 a0_3 a0_4 a0_5 l0_6 l0_7 l0_8 l0_9 a1_0 a1_1 a1_2) else (none)) else (none)) else (rev_Pairs.l0 k1 a2 x7_1 l0_6 (l0_6.length : Int) (wrap64 (x13_1 + 1)) a0_0 a0_1 a0_2 a0_3 a0_4 a0_5 l0_6 l0_7 l0_8 l0_9 a1_0 a1_1 a1_2)) = some r := H
                  have A19 := Aside0.mk A190
                  clear A190
                  by_cases c20 : t305 = true
                  · subst c20
                    have H1 : (if x13_1 < (l0_7.length : Int) then (if x7_1.length < 4398046511104 then (rev_Pairs.l0 k1 a2 (x7_1 ++ [(⟨rdOf ByteArray.empty l0_6 x13_1, rdOf ByteArray.empty l0_7 x13_1⟩ : S129)]) l0_6 (l0_6.length : Int) (wrap64 (x13_1 + 1)) a0_0 a0_1 a0_2 a0_3 a0_4 a0_5 l0_6 l0_7 l0_8 l0_9 a1_0 a1_1 a1_2) else (none)) else (none)) = some r := by rw [if_pos rfl] at H; exact H
                    clear H
                    have H := H1
                    clear H1
                    by_cases c21 : x13_1 < (l0_7.length : Int)
                    · rw [if_pos c21] at H
                      have c21b0 : decide (x13_1 < (l0_7.length : Int)) = true := decide_eq_true c21
                      clear c21
                      by_cases c22 : x7_1.length < 4398046511104
                      · rw [if_pos c22] at H
                        have LMc22 := Aside0.mk c22
                        clear c22
                        obtain ⟨y307, hy307⟩ : ∃ y_ : List (S129), y_ = (x7_1 ++ [(⟨rdOf ByteArray.empty l0_6 x13_1, rdOf ByteArray.empty l0_7 x13_1⟩ : S129)]) := ⟨_, rfl⟩
                        replace H : (rev_Pairs.l0 k1 a2 y307 l0_6 (l0_6.length : Int) (wrap64 (x13_1 + 1)) a0_0 a0_1 a0_2 a0_3 a0_4 a0_5 l0_6 l0_7 l0_8 l0_9 a1_0 a1_1 a1_2) = some r := by first | (rw [hy307]; with_reducible exact H) | (have H2_ := (Option.bind_some _ _).symm.trans H; rw [hy307]; with_reducible exact H2_) | (have H2_ := (Option.bind_some _ _).symm.trans H; with_reducible exact H2_) | with_reducible exact H | (rw [hy307]; exact H) | exact H
                        have Ny307 := Aside0.mk hy307
                        clear hy307
                        have H' := Aside0.mk H
                        clear H
                        have p303 : 0 ≤ (x13_1 : Int) := of_decide_eq_true (by first | (with_reducible assumption) | assumption)
                        have q303 : x13_1 < (l0_6.length : Int) := of_decide_eq_true (by first | (with_reducible assumption) | assumption)
                        obtain ⟨ad303, e303, hx303_0⟩ := Kd.at_string HR0_6.out x13_1 p303 q303
                        cases e303
                        replace hx303_0 := (HB.out.cell (World.block_lt_of_cell? w _ hx303_0)).trans hx303_0
                        replace p303 := eq_true p303
                        replace q303 := eq_true q303
                        obtain ⟨Ao23, co23, eo23⟩ := Kd.R_slice HO_7.out
                        subst eo23
                        have hnb24 := NB301_302.out
                        have hnc24 := NB302_301.out
                        have hcz25_0 : wr.cell? ⟨gb301, 0, none⟩ = some (.int .i64 a0_0) := (blk_cell BK301.out 0).trans rfl
                        have hcz25_1 : wr.cell? ⟨gb301, 1, none⟩ = some (.int .i64 a0_1) := (blk_cell BK301.out 1).trans rfl
                        have hcz25_2 : wr.cell? ⟨gb301, 2, none⟩ = some (.string a0_2) := (blk_cell BK301.out 2).trans rfl
                        have hcz25_3 : wr.cell? ⟨gb301, 3, none⟩ = some (.string a0_3) := (blk_cell BK301.out 3).trans rfl
                        have hcz25_4 : wr.cell? ⟨gb301, 4, none⟩ = some (.bool a0_4) := (blk_cell BK301.out 4).trans rfl
                        have hcz25_5 : wr.cell? ⟨gb301, 5, none⟩ = some (.bool a0_5) := (blk_cell BK301.out 5).trans rfl
                        have hcz25_6 : wr.cell? ⟨gb301, 6, none⟩ = some (.slice (some ad303) l0_6.length c0_6) := (blk_cell BK301.out 6).trans rfl
                        have hcz25_7 : wr.cell? ⟨gb301, 7, none⟩ = some (.slice A0_7 l0_7.length c0_7) := (blk_cell BK301.out 7).trans rfl
                        have hcz25_8 : wr.cell? ⟨gb301, 8, none⟩ = some (.slice A0_8 l0_8.length c0_8) := (blk_cell BK301.out 8).trans rfl
                        have hcz25_9 : wr.cell? ⟨gb301, 9, none⟩ = some (.slice A0_9 l0_9.length c0_9) := (blk_cell BK301.out 9).trans rfl
                        have hfz25_0 := blk_frozen BK301.out 0
                        have hfz25_1 := blk_frozen BK301.out 1
                        have hfz25_2 := blk_frozen BK301.out 2
                        have hfz25_3 := blk_frozen BK301.out 3
                        have hfz25_4 := blk_frozen BK301.out 4
                        have hfz25_5 := blk_frozen BK301.out 5
                        have hfz25_6 := blk_frozen BK301.out 6
                        have hfz25_7 := blk_frozen BK301.out 7
                        have hfz25_8 := blk_frozen BK301.out 8
                        have hfz25_9 := blk_frozen BK301.out 9
                        have p304 : 0 ≤ (x13_1 : Int) := of_decide_eq_true (by first | (with_reducible assumption) | assumption)
                        have q304 : x13_1 < (l0_8.length : Int) := of_decide_eq_true (by first | (with_reducible assumption) | assumption)
                        obtain ⟨ad304, e304, hx304_0⟩ := Kd.at_bool HR0_8.out x13_1 p304 q304
                        (try rw [← Nbq14.out] at hx304_0)
                        cases e304
                        replace hx304_0 := (HB.out.cell (World.block_lt_of_cell? w _ hx304_0)).trans hx304_0
                        replace p304 := eq_true p304
                        replace q304 := eq_true q304
                        have hcz26_0 : wr.cell? ⟨gb302, 0, none⟩ = some (.string a1_0) := (blk_cell BK302.out 0).trans rfl
                        have hcz26_1 : wr.cell? ⟨gb302, 1, none⟩ = some (.string a1_1) := (blk_cell BK302.out 1).trans rfl
                        have hcz26_2 : wr.cell? ⟨gb302, 2, none⟩ = some (.bool a1_2) := (blk_cell BK302.out 2).trans rfl
                        have hfz26_0 := blk_frozen BK302.out 0
                        have hfz26_1 := blk_frozen BK302.out 1
                        have hfz26_2 := blk_frozen BK302.out 2
                        go_wp2_with (first | (go_at_call 67; (with_reducible refine (key_Has.calls a1_0 a1_1 a1_2 (rdOf ByteArray.empty l0_6 x13_1) true _ A19.out).mono ?_); rintro e w27 ⟨rfl, hb⟩; have n0_ := Aside0.mk (Kd.R_below (by (with_reducible repeat (first | apply Kd.R_alloc | apply Kd.R_drewN | apply Kd.R_drew)); exact HO_7.out) hb); have n1_ := Aside0.mk (blk_below (g := gb301) (o := .cells #[.int .i64 a0_0, .int .i64 a0_1, .string a0_2, .string a0_3, .bool a0_4, .bool a0_5, .slice (some ad303) l0_6.length c0_6, .slice A0_7 l0_7.length c0_7, .slice (some ad304) l0_8.length c0_8, .slice A0_9 l0_9.length c0_9] 37 (0, 0)) (by (with_reducible repeat (first | refine blk_drewN ?_ _ | refine blk_drew ?_ | refine blk_alloc ?_ _)); exact BK301.out) hb); have n2_ := Aside0.mk (blk_below (g := gb302) (o := .cells #[.string a1_0, .string a1_1, .bool a1_2] 32 (0, 0)) (by (with_reducible repeat (first | refine blk_drewN ?_ _ | refine blk_drew ?_ | refine blk_alloc ?_ _)); exact BK302.out) hb); have n3_ := Aside0.mk (below_step (by repeat (first | (with_reducible first | exact HB.out | apply below_alloc | apply pw_below_drewN | apply below_drew1 | refine below_set ?_ GE301.out | refine below_set ?_ GE302.out) | exact HB.out)) hb); clear HO_7; clear BK301; clear BK302; clear HB; have HO_7 := n0_; have BK301 := n1_; have BK302 := n2_; have HB := n3_; clear n0_ n1_ n2_ n3_; (try clear hb); (try clear hb2); (try clear hk); (try clear hi); have hcz28_0 : w27.cell? ⟨gb301, 0, none⟩ = some (.int .i64 a0_0) := (blk_cell BK301.out 0).trans rfl; have hcz28_1 : w27.cell? ⟨gb301, 1, none⟩ = some (.int .i64 a0_1) := (blk_cell BK301.out 1).trans rfl; have hcz28_2 : w27.cell? ⟨gb301, 2, none⟩ = some (.string a0_2) := (blk_cell BK301.out 2).trans rfl; have hcz28_3 : w27.cell? ⟨gb301, 3, none⟩ = some (.string a0_3) := (blk_cell BK301.out 3).trans rfl; have hcz28_4 : w27.cell? ⟨gb301, 4, none⟩ = some (.bool a0_4) := (blk_cell BK301.out 4).trans rfl; have hcz28_5 : w27.cell? ⟨gb301, 5, none⟩ = some (.bool a0_5) := (blk_cell BK301.out 5).trans rfl; have hcz28_6 : w27.cell? ⟨gb301, 6, none⟩ = some (.slice (some ad303) l0_6.length c0_6) := (blk_cell BK301.out 6).trans rfl; have hcz28_7 : w27.cell? ⟨gb301, 7, none⟩ = some (.slice A0_7 l0_7.length c0_7) := (blk_cell BK301.out 7).trans rfl; have hcz28_8 : w27.cell? ⟨gb301, 8, none⟩ = some (.slice (some ad304) l0_8.length c0_8) := (blk_cell BK301.out 8).trans rfl; have hcz28_9 : w27.cell? ⟨gb301, 9, none⟩ = some (.slice A0_9 l0_9.length c0_9) := (blk_cell BK301.out 9).trans rfl; have hfz28_0 := blk_frozen BK301.out 0; have hfz28_1 := blk_frozen BK301.out 1; have hfz28_2 := blk_frozen BK301.out 2; have hfz28_3 := blk_frozen BK301.out 3; have hfz28_4 := blk_frozen BK301.out 4; have hfz28_5 := blk_frozen BK301.out 5; have hfz28_6 := blk_frozen BK301.out 6; have hfz28_7 := blk_frozen BK301.out 7; have hfz28_8 := blk_frozen BK301.out 8; have hfz28_9 := blk_frozen BK301.out 9; have p306 : 0 ≤ (x13_1 : Int) := of_decide_eq_true (by first | (with_reducible assumption) | assumption); have q306 : x13_1 < (l0_7.length : Int) := of_decide_eq_true (by first | (with_reducible assumption) | assumption); obtain ⟨ad306, e306, hx306_0⟩ := Kd.at_string HR0_7.out x13_1 p306 q306; cases e306; replace hx306_0 := (HB.out.cell (World.block_lt_of_cell? w _ hx306_0)).trans hx306_0; replace p306 := eq_true p306; replace q306 := eq_true q306) | ((with_reducible refine gate_builtin (b := .append) (xs := #[.tmp 33, .tmp 41]) rfl ?_); at_builtin; refine Kd.R_append k129 (w0 := w) w.heap.size rfl (.tmp 33) (.tmp 41) 56 129 (.agg #[(.string ⟨#[]⟩), (.string ⟨#[]⟩)]) 32 rfl Try.underlying56 info129 rfl (by decide) (by omega) (.slice Ao23 x7_1.length co23) x7_1 (⟨rdOf ByteArray.empty l0_6 x13_1, rdOf ByteArray.empty l0_7 x13_1⟩ : S129) [.string (rdOf ByteArray.empty l0_6 x13_1), .string (rdOf ByteArray.empty l0_7 x13_1)] (fun _ => True) (fun _ => False) rfl rfl ?aP (fun _ hk => hk.elim) ?aF ?aO ?aB ?aS ?aL ?_; (case aP => exact k129_mkM _ _ _ (⟨rdOf ByteArray.empty l0_6 x13_1, rdOf ByteArray.empty l0_7 x13_1⟩ : S129)); (case aB => exact (by repeat (first | (with_reducible first | exact HB.out | apply below_alloc | apply pw_below_drewN | apply below_drew1 | refine below_set ?_ GE301.out | refine below_set ?_ GE302.out) | exact HB.out))); (case aF => exact (fun _ _ => trivial)); (case aO => exact (by (with_reducible repeat (first | apply Kd.R_alloc | apply Kd.R_drewN | apply Kd.R_drew)); exact HO_7.out)); (case aS => exact (below_size (by repeat (first | (with_reducible first | exact HB.out | apply below_alloc | apply pw_below_drewN | apply below_drew1 | refine below_set ?_ GE301.out | refine below_set ?_ GE302.out) | exact HB.out)))); (case aL => have := LMc22.out; omega); intro v308 w29 ho hb hg hat; rw [← Ny307.out] at ho; have n0_ := Aside0.mk (blk_grown (g := gb301) (o := .cells #[.int .i64 a0_0, .int .i64 a0_1, .string a0_2, .string a0_3, .bool a0_4, .bool a0_5, .slice (some ad303) l0_6.length c0_6, .slice (some ad306) l0_7.length c0_7, .slice (some ad304) l0_8.length c0_8, .slice A0_9 l0_9.length c0_9] 37 (0, 0)) (by (with_reducible repeat (first | refine blk_drewN ?_ _ | refine blk_drew ?_ | refine blk_alloc ?_ _)); exact BK301.out) hg (Kd.R_ne HO_7.out BK301.out (by decide))); have n1_ := Aside0.mk (blk_grown (g := gb302) (o := .cells #[.string a1_0, .string a1_1, .bool a1_2] 32 (0, 0)) (by (with_reducible repeat (first | refine blk_drewN ?_ _ | refine blk_drew ?_ | refine blk_alloc ?_ _)); exact BK302.out) hg (Kd.R_ne HO_7.out BK302.out (by decide))); have n2_ := Aside0.mk (hb); have n3_ := Aside0.mk (ho); clear BK301; clear BK302; clear HB; clear HO_7; have BK301 := n0_; have BK302 := n1_; have HB := n2_; have HO309 := n3_; clear n0_ n1_ n2_ n3_; clear ho hb hg hat))
                        go_roundg k1
                        case measure => have := HK1.out; omega
                        case rel => exact ⟨(y307), (wrap64 (x13_1 + 1)), (by first | rfl | (simp; done) | (simp [*]; done)), H', ⟨by have := HK1.out; omega⟩, ⟨by (with_reducible repeat (first | apply Kd.R_alloc | apply Kd.R_drewN | apply Kd.R_drew)); exact HO309.out⟩, ⟨by (with_reducible repeat (first | refine blk_drewN ?_ _ | refine blk_drew ?_ | refine blk_alloc ?_ _)); exact BK301.out⟩, ⟨by (with_reducible repeat (first | refine blk_drewN ?_ _ | refine blk_drew ?_ | refine blk_alloc ?_ _)); exact BK302.out⟩, ⟨by repeat (first | (with_reducible first | exact HB.out | apply below_alloc | apply pw_below_drewN | apply below_drew1 | refine below_set ?_ GE301.out | refine below_set ?_ GE302.out) | exact HB.out)⟩⟩
                      · rw [if_neg c22] at H
                        exact absurd H (by simp)
                    · rw [if_neg c21] at H
                      exact absurd H (by simp)
                  · replace c20 := Bool.eq_false_iff.mpr c20
                    subst c20
                    have H1 : (rev_Pairs.l0 k1 a2 x7_1 l0_6 (l0_6.length : Int) (wrap64 (x13_1 + 1)) a0_0 a0_1 a0_2 a0_3 a0_4 a0_5 l0_6 l0_7 l0_8 l0_9 a1_0 a1_1 a1_2) = some r := by rw [if_neg (show ¬ (false = true) by decide)] at H; exact H
                    clear H
                    have H := H1
                    clear H1
                    have H' := Aside0.mk H
                    clear H
                    have p303 : 0 ≤ (x13_1 : Int) := of_decide_eq_true (by first | (with_reducible assumption) | assumption)
                    have q303 : x13_1 < (l0_6.length : Int) := of_decide_eq_true (by first | (with_reducible assumption) | assumption)
                    obtain ⟨ad303, e303, hx303_0⟩ := Kd.at_string HR0_6.out x13_1 p303 q303
                    cases e303
                    replace hx303_0 := (HB.out.cell (World.block_lt_of_cell? w _ hx303_0)).trans hx303_0
                    replace p303 := eq_true p303
                    replace q303 := eq_true q303
                    obtain ⟨Ao30, co30, eo30⟩ := Kd.R_slice HO_7.out
                    subst eo30
                    have hnb31 := NB301_302.out
                    have hnc31 := NB302_301.out
                    have hcz32_0 : wr.cell? ⟨gb301, 0, none⟩ = some (.int .i64 a0_0) := (blk_cell BK301.out 0).trans rfl
                    have hcz32_1 : wr.cell? ⟨gb301, 1, none⟩ = some (.int .i64 a0_1) := (blk_cell BK301.out 1).trans rfl
                    have hcz32_2 : wr.cell? ⟨gb301, 2, none⟩ = some (.string a0_2) := (blk_cell BK301.out 2).trans rfl
                    have hcz32_3 : wr.cell? ⟨gb301, 3, none⟩ = some (.string a0_3) := (blk_cell BK301.out 3).trans rfl
                    have hcz32_4 : wr.cell? ⟨gb301, 4, none⟩ = some (.bool a0_4) := (blk_cell BK301.out 4).trans rfl
                    have hcz32_5 : wr.cell? ⟨gb301, 5, none⟩ = some (.bool a0_5) := (blk_cell BK301.out 5).trans rfl
                    have hcz32_6 : wr.cell? ⟨gb301, 6, none⟩ = some (.slice (some ad303) l0_6.length c0_6) := (blk_cell BK301.out 6).trans rfl
                    have hcz32_7 : wr.cell? ⟨gb301, 7, none⟩ = some (.slice A0_7 l0_7.length c0_7) := (blk_cell BK301.out 7).trans rfl
                    have hcz32_8 : wr.cell? ⟨gb301, 8, none⟩ = some (.slice A0_8 l0_8.length c0_8) := (blk_cell BK301.out 8).trans rfl
                    have hcz32_9 : wr.cell? ⟨gb301, 9, none⟩ = some (.slice A0_9 l0_9.length c0_9) := (blk_cell BK301.out 9).trans rfl
                    have hfz32_0 := blk_frozen BK301.out 0
                    have hfz32_1 := blk_frozen BK301.out 1
                    have hfz32_2 := blk_frozen BK301.out 2
                    have hfz32_3 := blk_frozen BK301.out 3
                    have hfz32_4 := blk_frozen BK301.out 4
                    have hfz32_5 := blk_frozen BK301.out 5
                    have hfz32_6 := blk_frozen BK301.out 6
                    have hfz32_7 := blk_frozen BK301.out 7
                    have hfz32_8 := blk_frozen BK301.out 8
                    have hfz32_9 := blk_frozen BK301.out 9
                    have p304 : 0 ≤ (x13_1 : Int) := of_decide_eq_true (by first | (with_reducible assumption) | assumption)
                    have q304 : x13_1 < (l0_8.length : Int) := of_decide_eq_true (by first | (with_reducible assumption) | assumption)
                    obtain ⟨ad304, e304, hx304_0⟩ := Kd.at_bool HR0_8.out x13_1 p304 q304
                    (try rw [← Nbq14.out] at hx304_0)
                    cases e304
                    replace hx304_0 := (HB.out.cell (World.block_lt_of_cell? w _ hx304_0)).trans hx304_0
                    replace p304 := eq_true p304
                    replace q304 := eq_true q304
                    have hcz33_0 : wr.cell? ⟨gb302, 0, none⟩ = some (.string a1_0) := (blk_cell BK302.out 0).trans rfl
                    have hcz33_1 : wr.cell? ⟨gb302, 1, none⟩ = some (.string a1_1) := (blk_cell BK302.out 1).trans rfl
                    have hcz33_2 : wr.cell? ⟨gb302, 2, none⟩ = some (.bool a1_2) := (blk_cell BK302.out 2).trans rfl
                    have hfz33_0 := blk_frozen BK302.out 0
                    have hfz33_1 := blk_frozen BK302.out 1
                    have hfz33_2 := blk_frozen BK302.out 2
                    go_wp2_with (first | (go_at_call 67; (with_reducible refine (key_Has.calls a1_0 a1_1 a1_2 (rdOf ByteArray.empty l0_6 x13_1) false _ A19.out).mono ?_); rintro e w34 ⟨rfl, hb⟩; have n0_ := Aside0.mk (Kd.R_below (by (with_reducible repeat (first | apply Kd.R_alloc | apply Kd.R_drewN | apply Kd.R_drew)); exact HO_7.out) hb); have n1_ := Aside0.mk (blk_below (g := gb301) (o := .cells #[.int .i64 a0_0, .int .i64 a0_1, .string a0_2, .string a0_3, .bool a0_4, .bool a0_5, .slice (some ad303) l0_6.length c0_6, .slice A0_7 l0_7.length c0_7, .slice (some ad304) l0_8.length c0_8, .slice A0_9 l0_9.length c0_9] 37 (0, 0)) (by (with_reducible repeat (first | refine blk_drewN ?_ _ | refine blk_drew ?_ | refine blk_alloc ?_ _)); exact BK301.out) hb); have n2_ := Aside0.mk (blk_below (g := gb302) (o := .cells #[.string a1_0, .string a1_1, .bool a1_2] 32 (0, 0)) (by (with_reducible repeat (first | refine blk_drewN ?_ _ | refine blk_drew ?_ | refine blk_alloc ?_ _)); exact BK302.out) hb); have n3_ := Aside0.mk (below_step (by repeat (first | (with_reducible first | exact HB.out | apply below_alloc | apply pw_below_drewN | apply below_drew1 | refine below_set ?_ GE301.out | refine below_set ?_ GE302.out) | exact HB.out)) hb); clear HO_7; clear BK301; clear BK302; clear HB; have HO_7 := n0_; have BK301 := n1_; have BK302 := n2_; have HB := n3_; clear n0_ n1_ n2_ n3_; (try clear hb); (try clear hb2); (try clear hk); (try clear hi)))
                    go_roundg k1
                    case measure => have := HK1.out; omega
                    case rel => exact ⟨(x7_1), (wrap64 (x13_1 + 1)), (by first | rfl | (simp; done) | (simp [*]; done)), H', ⟨by have := HK1.out; omega⟩, ⟨by (with_reducible repeat (first | apply Kd.R_alloc | apply Kd.R_drewN | apply Kd.R_drew)); exact HO_7.out⟩, ⟨by (with_reducible repeat (first | refine blk_drewN ?_ _ | refine blk_drew ?_ | refine blk_alloc ?_ _)); exact BK301.out⟩, ⟨by (with_reducible repeat (first | refine blk_drewN ?_ _ | refine blk_drew ?_ | refine blk_alloc ?_ _)); exact BK302.out⟩, ⟨by repeat (first | (with_reducible first | exact HB.out | apply below_alloc | apply pw_below_drewN | apply below_drew1 | refine below_set ?_ GE301.out | refine below_set ?_ GE302.out) | exact HB.out)⟩⟩
              · rw [if_neg c13] at H
                exact absurd H (by simp)
          · rw [if_neg c10] at H
            exact absurd H (by simp)
        · rw [if_neg c9] at H
          exact absurd H (by simp)
      · rw [if_neg c8] at H
        have c8b0 : decide (x13_1 < (l0_6.length : Int)) = false := decide_eq_false c8
        clear c8
        obtain rfl := Option.some.inj H
        go_wp2
        go_ret
        exact ⟨_, by first | rfl | (simp [errW_none, errW_some] <;> rfl) | (simp [*, errW_none, errW_some] <;> rfl), by (with_reducible repeat (first | apply Kd.R_alloc | apply Kd.R_drewN | apply Kd.R_drew)); exact HO_7.out, by repeat (first | (with_reducible first | exact HB.out | apply below_alloc | apply pw_below_drewN | apply below_drew1 | refine below_set ?_ GE301.out | refine below_set ?_ GE302.out) | exact HB.out)⟩
end Go.Proofs.Ytoaacdjcjicemaa.PRevChanges
