/- Descriptors, by a port that asks memory at once: Init, Latest, Version. -/
import Derived.Test.YtahnmklofgnagaaDesc1
namespace Go.Proofs.Ytahnmklofgnagaa.Mem
open Go.RowKit Go.Proofs.YtahnmklofgnagaaW.PrintWords Go.Proofs.YtahnmklofgnagaaW.PrintLast Go.Proofs.Ytahnmklofgnagaa.Tags
set_option linter.unusedVariables false
set_option linter.unusedSimpArgs false
section
variable {w0 w w' : World} {pb mb cb : Nat} {m m' : M}
set_option maxHeartbeats 1600000 in
set_option maxRecDepth 100000 in
theorem init_ok (h : St w0 w pb mb cb m) {M1 M2 : M} {y t : Int} (hl : m.laid 1 D.z = (M1, y, 0)) (ha : M1.alloc (number y) = (M2, t, 0)) : Calls Try.prog 71 #[ptr pb] w (Endp w0 w pb mb cb (.tuple #[.int .i64 t, .int .i64 0]) M2) := by
  have HL := Lib.hid hl
  have HA := Lib.hid ha
  clear hl ha
  go_enter Try.func71, Try.ntmps71
  go_wp2_with fail
  refine (laid_calls h 1 D.z).mono ?_
  rw [HL.out]
  rintro e W1 ⟨rfl, h1, hF⟩
  have HF := Lib.hid hF
  clear hF h
  go_wp2_with fail
  refine (qAllocWord h1 y).mono ?_
  rw [HA.out]
  rintro e W2 ⟨rfl, h2, hF⟩
  have HF2 := Lib.hid (HF.out.trans hF)
  clear hF h1
  go_wp2_with fail
  go_ret2
  exact ⟨rfl, h2, HF2.out⟩
theorem word_cells (m : M) (x : Int) : (m.word x).1.cells = m.cells := by
  unfold M.word
  split
  · rfl
  · split <;> rfl
theorem okd_of_cells {m m' : M} (h : m'.cells = m.cells) (ho : m.okd = true) : m'.okd = true := by
  unfold M.okd
  rw [h]
  exact ho
def M.latest (m : M) (top : Int) : M × Int × D × Bool × Int :=
  if (m.word top).2.2 ≠ 0 then ((m.word top).1, 0, D.z, false, (m.word top).2.2)
  else if ((m.word top).1.dload (m.word top).2.1).2.2 ≠ 0 then (((m.word top).1.dload (m.word top).2.1).1, 0, D.z, false, ((m.word top).1.dload (m.word top).2.1).2.2)
  else if (((m.word top).1.dload (m.word top).2.1).1.word ((m.word top).1.dload (m.word top).2.1).2.1.st).2.2 ≠ 0 then ((((m.word top).1.dload (m.word top).2.1).1.word ((m.word top).1.dload (m.word top).2.1).2.1.st).1, 0, D.z, false, (((m.word top).1.dload (m.word top).2.1).1.word ((m.word top).1.dload (m.word top).2.1).2.1.st).2.2)
  else ((((m.word top).1.dload (m.word top).2.1).1.word ((m.word top).1.dload (m.word top).2.1).2.1.st).1, (m.word top).2.1, ((m.word top).1.dload (m.word top).2.1).2.1, ((((m.word top).1.dload (m.word top).2.1).1.word ((m.word top).1.dload (m.word top).2.1).2.1.st).2.1 == 1), 0)
set_option maxHeartbeats 3200000 in
set_option maxRecDepth 100000 in
theorem latest_calls (h : St w0 w pb mb cb m) (ho : m.okd = true) (top : Int) : Calls Try.prog 24 #[ptr pb, .int .i64 top] w (Endp w0 w pb mb cb (.tuple #[.int .i64 (m.latest top).2.1, (m.latest top).2.2.1.v, .bool (m.latest top).2.2.2.1, .int .i64 (m.latest top).2.2.2.2]) (m.latest top).1) := by
  obtain ⟨M1, y1, d1, b1, e1, hy⟩ : ∃ M1 y1 d1 b1 e1, m.latest top = (M1, y1, d1, b1, e1) := ⟨_, _, _, _, _, rfl⟩
  rw [hy]
  unfold M.latest at hy
  have how := okd_of_cells (word_cells m top) ho
  obtain ⟨W, hW⟩ : ∃ W : World, W = w.alloc (.cells #[.int .i64 0, .int .i64 0, .int .i64 0, .slice none 0 0] 51) := ⟨_, rfl⟩
  have hb : Below w.heap.size w W := hW ▸ below_alloc (Below.refl _ _) _
  have hK : W.heap[w.heap.size]? = some (.cells #[.int .i64 0, .int .i64 0, .int .i64 0, .slice none 0 0] 51 (0, 0)) := hW ▸ blk_new w _
  have h1 := h.below hb
  have hbw : w0.heap.size ≤ w.heap.size := h.F.size
  have HW := Lib.hid hW
  have HF1 := Lib.hid (Fr.of_below hb mb cb)
  clear hW hb h ho
  go_enter Try.func24, Try.ntmps24
  go_wp2_with fail
  rw [← HW.out]
  refine (qWord h1 top).mono ?_
  rintro e W2 ⟨rfl, h2, hF⟩
  have hK2 := hF.blk h1.A hK (by decide) (by decide)
  have HF2 := Lib.hid (HF1.out.trans hF)
  generalize m.word top = r at *
  obtain ⟨M2, y2, e2⟩ := r
  simp only at h2 hy how ⊢
  clear hF h1 hK HF1 HW
  by_cases he : e2 = 0
  · subst he
    rw [if_neg (by decide)] at hy
    go_wp2_with fail
    refine (dload_calls h2 how y2).mono ?_
    rintro e W3 ⟨rfl, h3, hF⟩
    have hK3 := hF.blk h2.A hK2 (by decide) (by decide)
    have HF3 := Lib.hid (HF2.out.trans hF)
    generalize M2.dload y2 = r at *
    obtain ⟨M3, d, e3⟩ := r
    simp only at h3 hy ⊢
    clear hF h2 hK2 HF2 how
    obtain ⟨va, vb, vc, vA, vn, vk⟩ := d
    obtain ⟨W4, hW4⟩ : ∃ W4 : World, W4 = W3.alloc (.cells #[.int .i64 va, .int .i64 vb, .int .i64 vc, .slice vA vn vk] 51) := ⟨_, rfl⟩
    have hb : Below W3.heap.size W3 W4 := hW4 ▸ below_alloc (Below.refl _ _) _
    have hX4 : W4.heap[W3.heap.size]? = some (.cells #[.int .i64 va, .int .i64 vb, .int .i64 vc, .slice vA vn vk] 51 (0, 0)) := hW4 ▸ blk_new W3 _
    have hK4 := blk_below hK3 hb
    have h4 := h3.below hb
    have HF4 := Lib.hid (HF3.out.trans (Fr.of_below hb mb cb))
    have HW4 := Lib.hid hW4
    clear hW4 hb h3 HF3
    by_cases he : e3 = 0
    · subst he
      rw [if_neg (by decide)] at hy
      go_upto_region 7 with fail
      rw [← HW4.out]
      clear HW4 hK3
      obtain ⟨k0, k1, k2, k3⟩ := box4 hX4
      go_wp2_with fail
      refine (qWord h4 vc).mono ?_
      rintro e W5 ⟨rfl, h5, hF⟩
      have hK5 := hF.blk h4.A hK4 (by decide) (by decide)
      have hX5 := hF.blk h4.A hX4 (by decide) (by decide)
      have HF5 := Lib.hid (HF4.out.trans hF)
      generalize M3.word vc = r at *
      obtain ⟨M4, y4, e4⟩ := r
      simp only at h5 hy ⊢
      clear hF h4 hK4 hX4 HF4 k0 k1 k2 k3
      obtain ⟨k0, k1, k2, k3⟩ := box4 hX5
      obtain ⟨q0, q1, q2, q3⟩ := box4 hK5
      have z0 := blk_frozen hK5 0
      have z1 := blk_frozen hK5 1
      have z2 := blk_frozen hK5 2
      have z3 := blk_frozen hK5 3
      by_cases he : e4 = 0
      · subst he
        rw [if_neg (by decide)] at hy
        injection hy with hy1 hy
        injection hy with hy2 hy
        injection hy with hy3 hy
        injection hy with hy4 hy5
        subst hy1 hy2 hy3 hy4 hy5
        go_upto_region 10 with fail
        refine start_ (n := 8) (S := fun w' => w'.cell? ⟨W3.heap.size, 0, none⟩ = some (.int .i64 va) ∧ w'.cell? ⟨W3.heap.size, 1, none⟩ = some (.int .i64 vb) ∧ w'.cell? ⟨W3.heap.size, 2, none⟩ = some (.int .i64 vc) ∧ w'.cell? ⟨W3.heap.size, 3, none⟩ = some (.slice vA vn vk)) (ds := [5]) #[false, false, false, false, false, false, false, false] rfl rfl rfl (⟨k0, k1, k2, k3⟩) ?_
        intro hHeld
        refine pure_ (i := 0) (N := some 43) (v := ?_) (a' := ?_) #[true, false, false, false, false, false, false, false] rfl rfl (by kernel_rfl) (fun _ _ _ h => h) (Or.inl ⟨by rfl, ?_⟩) ?_ ?_
        rotate_left
        · intro w'
          go_simp
          with_reducible rfl
        rotate_left
        · simp only [Act.put, List.setIfInBounds_toArray, List.set_cons_zero, List.set_cons_succ, i64_w, i32_w]
          rfl
        refine take_ (i := 1) (N := some 44) (v := ?_) (a' := ?_) #[true, true, false, false, false, false, false, false] rfl rfl (by kernel_rfl) (fun _ _ _ h => h) (Or.inl ⟨by rfl, ?_⟩) hHeld ?_ ?_
        rotate_left
        · rintro w' hHeld'
          have hHeld'' := hHeld'
          (try obtain ⟨r0_, r1_⟩ := hHeld')
          (try obtain ⟨r1_, r2_⟩ := r1_)
          (try obtain ⟨r2_, r3_⟩ := r2_)
          (try obtain ⟨r3_, r4_⟩ := r3_)
          (try obtain ⟨r4_, r5_⟩ := r4_)
          (try obtain ⟨r5_, r6_⟩ := r5_)
          (try obtain ⟨r6_, r7_⟩ := r6_)
          (try obtain ⟨r7_, r8_⟩ := r7_)
          (try obtain ⟨r8_, r9_⟩ := r8_)
          (try obtain ⟨r9_, r10_⟩ := r9_)
          (try obtain ⟨r10_, r11_⟩ := r10_)
          (try obtain ⟨r11_, r12_⟩ := r11_)
          (try obtain ⟨r12_, r13_⟩ := r12_)
          (try obtain ⟨r13_, r14_⟩ := r13_)
          (try obtain ⟨r14_, r15_⟩ := r14_)
          (try obtain ⟨r15_, r16_⟩ := r15_)
          (try obtain ⟨r16_, r17_⟩ := r16_)
          (try obtain ⟨r17_, r18_⟩ := r17_)
          (try obtain ⟨r18_, r19_⟩ := r18_)
          (try obtain ⟨r19_, r20_⟩ := r19_)
          (try obtain ⟨r20_, r21_⟩ := r20_)
          (try obtain ⟨r21_, r22_⟩ := r21_)
          (try obtain ⟨r22_, r23_⟩ := r22_)
          (try obtain ⟨r23_, r24_⟩ := r23_)
          (try obtain ⟨r24_, r25_⟩ := r24_)
          (try obtain ⟨r25_, r26_⟩ := r25_)
          (try obtain ⟨r26_, r27_⟩ := r26_)
          (try obtain ⟨r27_, r28_⟩ := r27_)
          (try obtain ⟨r28_, r29_⟩ := r28_)
          (try obtain ⟨r29_, r30_⟩ := r29_)
          (try obtain ⟨r7_, r8_⟩ := r7_)
          (try obtain ⟨r8_, r9_⟩ := r8_)
          go_simp
          with_reducible rfl
        rotate_left
        · simp only [Act.put, List.setIfInBounds_toArray, List.set_cons_zero, List.set_cons_succ, i64_w, i32_w]
          rfl
        refine pure_ (i := 2) (N := some 45) (v := ?_) (a' := ?_) #[true, true, true, false, false, false, false, false] rfl rfl (by kernel_rfl) (fun _ _ _ h => h) (Or.inl ⟨by rfl, ?_⟩) ?_ ?_
        rotate_left
        · intro w'
          go_simp
          with_reducible rfl
        rotate_left
        · simp only [Act.put, List.setIfInBounds_toArray, List.set_cons_zero, List.set_cons_succ, i64_w, i32_w]
          rfl
        refine pure_ (i := 3) (N := some 46) (v := ?_) (a' := ?_) #[true, true, true, true, false, false, false, false] rfl rfl (by kernel_rfl) (fun _ _ _ h => h) (Or.inl ⟨by rfl, ?_⟩) ?_ ?_
        rotate_left
        · intro w'
          go_simp
          with_reducible rfl
        rotate_left
        · simp only [Act.put, List.setIfInBounds_toArray, List.set_cons_zero, List.set_cons_succ, i64_w, i32_w]
          rfl
        refine pure_ (i := 4) (N := some 4) (v := ?_) (a' := ?_) #[true, true, true, true, true, false, false, false] rfl rfl (by kernel_rfl) (fun _ _ _ h => h) (Or.inl ⟨by rfl, ?_⟩) ?_ ?_
        rotate_left
        · intro w'
          go_simp
          with_reducible rfl
        rotate_left
        · simp only [Act.put, List.setIfInBounds_toArray, List.set_cons_zero, List.set_cons_succ, i64_w, i32_w]
          rfl
        refine last_ (i := 5) (N := none) #[true, true, true, true, true, true, false, false] rfl rfl (by kernel_rfl) (by decide) (fun K hSh => ?_)
        refine skip_ (w1 := (set4 W5 w.heap.size (.int .i64 va) (.int .i64 vb) (.int .i64 vc) (.slice vA vn vk)).drew) (by rfl) rfl (by go_simp <;> rfl) ?_
        refine hSh.out _ _ ?_
        refine pure_ (i := 6) (N := some 6) (v := ?_) (a' := ?_) #[true, true, true, true, true, true, true, false] rfl rfl (by kernel_rfl) (fun _ _ _ h => h) (Or.inl ⟨by rfl, ?_⟩) ?_ ?_
        rotate_left
        · intro w'
          go_simp
          with_reducible rfl
        rotate_left
        · simp only [Act.put, List.setIfInBounds_toArray, List.set_cons_zero, List.set_cons_succ, i64_w, i32_w]
          rfl
        refine pure_ (i := 7) (N := some 7) (v := ?_) (a' := ?_) #[true, true, true, true, true, true, true, true] rfl rfl (by kernel_rfl) (fun _ _ _ h => h) (Or.inl ⟨by rfl, ?_⟩) ?_ ?_
        rotate_left
        · intro w'
          go_simp
          with_reducible rfl
        rotate_left
        · simp only [Act.put, List.setIfInBounds_toArray, List.set_cons_zero, List.set_cons_succ, i64_w, i32_w]
          rfl
        refine done_ (by kernel_rfl) ?_
        clear hHeld hX5 k0 k1 k2 k3
        have hk := blk4 hK5 (.int .i64 va) (.int .i64 vb) (.int .i64 vc) (.slice vA vn vk)
        have hon := only4 W5 w.heap.size (.int .i64 va) (.int .i64 vb) (.int .i64 vc) (.slice vA vn vk)
        obtain ⟨u0, u1, u2, u3⟩ := box4 hk
        have FIN := Lib.hid (show Endp w0 w pb mb cb (.tuple #[.int .i64 y2, D.v ⟨va, vb, vc, vA, vn, vk⟩, .bool (y4 == 1), .int .i64 0]) M4 (.returned (.tuple #[.int .i64 y2, D.v ⟨va, vb, vc, vA, vn, vk⟩, .bool (y4 == 1), .int .i64 0])) _ from ⟨rfl, (h5.only hon hK5 (by decide) (by decide) (by decide) hbw).drewN 1, (HF5.out.only hon (Nat.le_refl _)).drewN 1⟩)
        clear hk hon q0 q1 q2 q3 z0 z1 z2 z3
        go_wp2_with fail
        exact bodyPost_ret (v := .tuple #[.int .i64 y2, D.v ⟨va, vb, vc, vA, vn, vk⟩, .bool (y4 == 1), .int .i64 0]) (by simp [results, Try.results24, go_sem, u0, u1, u2, u3, D.v, D.z]) rfl FIN.out
      · have g1 : (e4 != 0) = true := by simpa using he
        rw [if_pos he] at hy
        injection hy with hy1 hy
        injection hy with hy2 hy
        injection hy with hy3 hy
        injection hy with hy4 hy5
        subst hy1 hy2 hy3 hy4 hy5
        clear hX5 k0 k1 k2 k3
        go_wp2_with fail
        have hk := blk4 hK5 (.int .i64 0) (.int .i64 0) (.int .i64 0) (.slice none 0 0)
        have hon := only4 W5 w.heap.size (.int .i64 0) (.int .i64 0) (.int .i64 0) (.slice none 0 0)
        obtain ⟨u0, u1, u2, u3⟩ := box4 hk
        have FIN := Lib.hid (show Endp w0 w pb mb cb (.tuple #[.int .i64 0, D.z.v, .bool false, .int .i64 e4]) M4 (.returned (.tuple #[.int .i64 0, D.z.v, .bool false, .int .i64 e4])) _ from ⟨rfl, h5.only hon hK5 (by decide) (by decide) (by decide) hbw, HF5.out.only hon (Nat.le_refl _)⟩)
        clear hk hon q0 q1 q2 q3 z0 z1 z2 z3
        exact bodyPost_ret (v := .tuple #[.int .i64 0, D.z.v, .bool false, .int .i64 e4]) (by simp [results, Try.results24, go_sem, u0, u1, u2, u3, D.v, D.z]) rfl FIN.out
    · have g1 : (e3 != 0) = true := by simpa using he
      rw [if_pos he] at hy
      injection hy with hy1 hy
      injection hy with hy2 hy
      injection hy with hy3 hy
      injection hy with hy4 hy5
      subst hy1 hy2 hy3 hy4 hy5
      go_upto_region 5 with fail
      rw [← HW4.out]
      clear HW4 hX4 hK3
      obtain ⟨q0, q1, q2, q3⟩ := box4 hK4
      have z0 := blk_frozen hK4 0
      have z1 := blk_frozen hK4 1
      have z2 := blk_frozen hK4 2
      have z3 := blk_frozen hK4 3
      go_wp2_with fail
      have hk := blk4 hK4 (.int .i64 0) (.int .i64 0) (.int .i64 0) (.slice none 0 0)
      have hon := only4 W4 w.heap.size (.int .i64 0) (.int .i64 0) (.int .i64 0) (.slice none 0 0)
      obtain ⟨u0, u1, u2, u3⟩ := box4 hk
      have FIN := Lib.hid (show Endp w0 w pb mb cb (.tuple #[.int .i64 0, D.z.v, .bool false, .int .i64 e3]) M3 (.returned (.tuple #[.int .i64 0, D.z.v, .bool false, .int .i64 e3])) _ from ⟨rfl, h4.only hon hK4 (by decide) (by decide) (by decide) hbw, HF4.out.only hon (Nat.le_refl _)⟩)
      clear hk hon q0 q1 q2 q3 z0 z1 z2 z3
      exact bodyPost_ret (v := .tuple #[.int .i64 0, D.z.v, .bool false, .int .i64 e3]) (by simp [results, Try.results24, go_sem, u0, u1, u2, u3, D.v, D.z]) rfl FIN.out
  · have g1 : (e2 != 0) = true := by simpa using he
    rw [if_pos he] at hy
    injection hy with hy1 hy
    injection hy with hy2 hy
    injection hy with hy3 hy
    injection hy with hy4 hy5
    subst hy1 hy2 hy3 hy4 hy5
    obtain ⟨q0, q1, q2, q3⟩ := box4 hK2
    have z0 := blk_frozen hK2 0
    have z1 := blk_frozen hK2 1
    have z2 := blk_frozen hK2 2
    have z3 := blk_frozen hK2 3
    go_wp2_with fail
    have hk := blk4 hK2 (.int .i64 0) (.int .i64 0) (.int .i64 0) (.slice none 0 0)
    have hon := only4 W2 w.heap.size (.int .i64 0) (.int .i64 0) (.int .i64 0) (.slice none 0 0)
    obtain ⟨u0, u1, u2, u3⟩ := box4 hk
    have FIN := Lib.hid (show Endp w0 w pb mb cb (.tuple #[.int .i64 0, D.z.v, .bool false, .int .i64 e2]) M2 (.returned (.tuple #[.int .i64 0, D.z.v, .bool false, .int .i64 e2])) _ from ⟨rfl, h2.only hon hK2 (by decide) (by decide) (by decide) hbw, HF2.out.only hon (Nat.le_refl _)⟩)
    clear hk hon q0 q1 q2 q3 z0 z1 z2 z3
    exact bodyPost_ret (v := .tuple #[.int .i64 0, D.z.v, .bool false, .int .i64 e2]) (by simp [results, Try.results24, go_sem, u0, u1, u2, u3, D.v, D.z]) rfl FIN.out
end
end Go.Proofs.Ytahnmklofgnagaa.Mem
