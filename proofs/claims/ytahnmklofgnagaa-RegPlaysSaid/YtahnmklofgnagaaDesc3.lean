/- Descriptors, by a port that asks memory at once: Version, Drop, Make of no swaps, Publish. -/
import Derived.Test.YtahnmklofgnagaaDesc2
import Derived.WalkSpells
namespace Go.Proofs.Ytahnmklofgnagaa.Mem
open Go.RowKit Go.Proofs.YtahnmklofgnagaaW.PrintWords Go.Proofs.YtahnmklofgnagaaW.PrintLast Go.Proofs.Ytahnmklofgnagaa.Tags
set_option linter.unusedVariables false
set_option linter.unusedSimpArgs false
section
variable {w0 w w' : World} {pb mb cb : Nat} {m m' : M}
def M.version (m : M) (top : Int) : M × Int × Int := if (m.latest top).2.2.2.2 ≠ 0 ∨ (m.latest top).2.2.2.1 = true then ((m.latest top).1, (m.latest top).2.2.1.ver, (m.latest top).2.2.2.2) else ((m.latest top).1, (m.latest top).2.2.1.bef, 0)
set_option maxHeartbeats 1600000 in
set_option maxRecDepth 100000 in
theorem version_calls (h : St w0 w pb mb cb m) (ho : m.okd = true) (top : Int) : Calls Try.prog 26 #[ptr pb, .int .i64 top] w (Endp w0 w pb mb cb (.tuple #[.int .i64 (m.version top).2.1, .int .i64 (m.version top).2.2]) (m.version top).1) := by
  obtain ⟨M1, y1, e1, hy⟩ : ∃ M1 y1 e1, m.version top = (M1, y1, e1) := ⟨_, _, _, rfl⟩
  rw [hy]
  unfold M.version at hy
  go_enter Try.func26, Try.ntmps26
  go_wp2_with fail
  refine (latest_calls h ho top).mono ?_
  rintro e W1 ⟨rfl, h1, hF⟩
  generalize m.latest top = r at *
  obtain ⟨M2, y2, d, b, e2⟩ := r
  obtain ⟨va, vb, vc, vA, vn, vk⟩ := d
  simp only at h1 hy ⊢
  obtain ⟨W, hW⟩ : ∃ W : World, W = W1.alloc (.cells #[.int .i64 va, .int .i64 vb, .int .i64 vc, .slice vA vn vk] 51) := ⟨_, rfl⟩
  have hb : Below W1.heap.size W1 W := hW ▸ below_alloc (Below.refl _ _) _
  have hK : W.heap[W1.heap.size]? = some (.cells #[.int .i64 va, .int .i64 vb, .int .i64 vc, .slice vA vn vk] 51 (0, 0)) := hW ▸ blk_new W1 _
  have h2 := h1.below hb
  have HF1 := Lib.hid (hF.trans (Fr.of_below hb mb cb))
  have HW := Lib.hid hW
  obtain ⟨k0, k1, k2, k3⟩ := box4 hK
  clear hW hb h hF h1 hK
  by_cases he : e2 = 0
  · subst he
    cases b with
    | true =>
      rw [if_pos (Or.inr rfl)] at hy
      injection hy with hy1 hy
      injection hy with hy2 hy3
      subst hy1 hy2 hy3
      go_upto_region 2 with fail
      rw [← HW.out]
      go_wp2_with fail
      go_ret2
      exact ⟨rfl, h2, HF1.out⟩
    | false =>
      rw [if_neg (by simp)] at hy
      injection hy with hy1 hy
      injection hy with hy2 hy3
      subst hy1 hy2 hy3
      go_upto_region 2 with fail
      rw [← HW.out]
      go_wp2_with fail
      go_ret2
      exact ⟨rfl, h2, HF1.out⟩
  · have g1 : (e2 != 0) = true := by simpa using he
    rw [if_pos (Or.inl he)] at hy
    injection hy with hy1 hy
    injection hy with hy2 hy3
    subst hy1 hy2 hy3
    go_upto_region 2 with fail
    rw [← HW.out]
    go_wp2_with fail
    go_ret2
    exact ⟨rfl, h2, HF1.out⟩
def M.drop (m : M) (x s : Int) : M × Int := if (m.dload x).2.2 ≠ 0 then ((m.dload x).1, (m.dload x).2.2)
  else ((((m.dload x).1.retire x s).1.retire (m.dload x).2.1.st s).1, first2 ((m.dload x).1.retire x s).2 (((m.dload x).1.retire x s).1.retire (m.dload x).2.1.st s).2)
set_option maxHeartbeats 1600000 in
set_option maxRecDepth 100000 in
theorem drop_calls (h : St w0 w pb mb cb m) (ho : m.okd = true) (x s : Int) : Calls Try.prog 29 #[ptr pb, .int .i64 x, .int .i64 s] w (Endp w0 w pb mb cb (.int .i64 (m.drop x s).2) (m.drop x s).1) := by
  obtain ⟨M1, e1, hy⟩ : ∃ M1 e1, m.drop x s = (M1, e1) := ⟨_, _, rfl⟩
  rw [hy]
  unfold M.drop at hy
  have hbw : w0.heap.size ≤ w.heap.size := h.F.size
  go_enter Try.func29, Try.ntmps29
  go_wp2_with fail
  refine (dload_calls h ho x).mono ?_
  rintro e W1 ⟨rfl, h1, hF⟩
  generalize m.dload x = r at *
  obtain ⟨M2, d, e2⟩ := r
  obtain ⟨va, vb, vc, vA, vn, vk⟩ := d
  simp only at h1 hy ⊢
  obtain ⟨W, hW⟩ : ∃ W : World, W = W1.alloc (.cells #[.int .i64 va, .int .i64 vb, .int .i64 vc, .slice vA vn vk] 51) := ⟨_, rfl⟩
  have hb : Below W1.heap.size W1 W := hW ▸ below_alloc (Below.refl _ _) _
  have hK : W.heap[W1.heap.size]? = some (.cells #[.int .i64 va, .int .i64 vb, .int .i64 vc, .slice vA vn vk] 51 (0, 0)) := hW ▸ blk_new W1 _
  have h2 := h1.below hb
  have HF1 := Lib.hid (hF.trans (Fr.of_below hb mb cb))
  have HW := Lib.hid hW
  clear hW hb h hF h1
  by_cases he : e2 = 0
  · subst he
    rw [if_neg (by decide)] at hy
    injection hy with hy1 hy2
    subst hy1 hy2
    go_upto_region 4 with fail
    rw [← HW.out]
    refine start_ (n := 12) (S := fun w' => w'.cell? ⟨W1.heap.size, 2, none⟩ = some (.int .i64 vc)) (ds := []) #[false, false, false, false, false, false, false, false, false, false, false, false] rfl rfl rfl ((blk_cell (show (W.drewN 1).heap[W1.heap.size]? = _ from hK) 2).trans rfl) ?_
    intro hHeld
    refine take_ (i := 0) (N := some 18) (v := ?_) (a' := ?_) #[true, false, false, false, false, false, false, false, false, false, false, false] rfl rfl (by kernel_rfl) (fun _ _ _ h => h) (Or.inl ⟨by rfl, ?_⟩) hHeld ?_ ?_
    rotate_left
    · rintro w' hHeld'
      have hHeld'' := hHeld'
      (try obtain ⟨r0_, r1_⟩ := hHeld')
      (try obtain ⟨r1_, r2_⟩ := r1_)
      (try obtain ⟨r2_, r3_⟩ := r2_)
      (try obtain ⟨r3_, r4_⟩ := r3_)
      (try obtain ⟨r4_, r5_⟩ := r4_)
      (try obtain ⟨r5_, r6_⟩ := r5_)
      (try obtain ⟨r6_, r7_⟩ := r6_)
      (try obtain ⟨r7_, r8_⟩ := r7_)
      (try obtain ⟨r8_, r9_⟩ := r8_)
      (try obtain ⟨r9_, r10_⟩ := r9_)
      (try obtain ⟨r10_, r11_⟩ := r10_)
      (try obtain ⟨r11_, r12_⟩ := r11_)
      (try obtain ⟨r12_, r13_⟩ := r12_)
      (try obtain ⟨r13_, r14_⟩ := r13_)
      (try obtain ⟨r14_, r15_⟩ := r14_)
      (try obtain ⟨r15_, r16_⟩ := r15_)
      (try obtain ⟨r16_, r17_⟩ := r16_)
      (try obtain ⟨r17_, r18_⟩ := r17_)
      (try obtain ⟨r18_, r19_⟩ := r18_)
      (try obtain ⟨r19_, r20_⟩ := r19_)
      (try obtain ⟨r20_, r21_⟩ := r20_)
      (try obtain ⟨r21_, r22_⟩ := r21_)
      (try obtain ⟨r22_, r23_⟩ := r22_)
      (try obtain ⟨r23_, r24_⟩ := r23_)
      (try obtain ⟨r24_, r25_⟩ := r24_)
      (try obtain ⟨r25_, r26_⟩ := r25_)
      (try obtain ⟨r26_, r27_⟩ := r26_)
      (try obtain ⟨r27_, r28_⟩ := r27_)
      (try obtain ⟨r28_, r29_⟩ := r28_)
      (try obtain ⟨r29_, r30_⟩ := r29_)
      (try obtain ⟨r7_, r8_⟩ := r7_)
      (try obtain ⟨r8_, r9_⟩ := r8_)
      go_simp
      with_reducible rfl
    rotate_left
    · simp only [Act.put, List.setIfInBounds_toArray, List.set_cons_zero, List.set_cons_succ, i64_w, i32_w]
      rfl
    refine take_ (i := 1) (N := some 19) (v := ?_) (a' := ?_) #[true, true, false, false, false, false, false, false, false, false, false, false] rfl rfl (by kernel_rfl) (fun _ _ _ h => h) (Or.inl ⟨by rfl, ?_⟩) hHeld ?_ ?_
    rotate_left
    · rintro w' hHeld'
      have hHeld'' := hHeld'
      (try obtain ⟨r0_, r1_⟩ := hHeld')
      (try obtain ⟨r1_, r2_⟩ := r1_)
      (try obtain ⟨r2_, r3_⟩ := r2_)
      (try obtain ⟨r3_, r4_⟩ := r3_)
      (try obtain ⟨r4_, r5_⟩ := r4_)
      (try obtain ⟨r5_, r6_⟩ := r5_)
      (try obtain ⟨r6_, r7_⟩ := r6_)
      (try obtain ⟨r7_, r8_⟩ := r7_)
      (try obtain ⟨r8_, r9_⟩ := r8_)
      (try obtain ⟨r9_, r10_⟩ := r9_)
      (try obtain ⟨r10_, r11_⟩ := r10_)
      (try obtain ⟨r11_, r12_⟩ := r11_)
      (try obtain ⟨r12_, r13_⟩ := r12_)
      (try obtain ⟨r13_, r14_⟩ := r13_)
      (try obtain ⟨r14_, r15_⟩ := r14_)
      (try obtain ⟨r15_, r16_⟩ := r15_)
      (try obtain ⟨r16_, r17_⟩ := r16_)
      (try obtain ⟨r17_, r18_⟩ := r17_)
      (try obtain ⟨r18_, r19_⟩ := r18_)
      (try obtain ⟨r19_, r20_⟩ := r19_)
      (try obtain ⟨r20_, r21_⟩ := r20_)
      (try obtain ⟨r21_, r22_⟩ := r21_)
      (try obtain ⟨r22_, r23_⟩ := r22_)
      (try obtain ⟨r23_, r24_⟩ := r23_)
      (try obtain ⟨r24_, r25_⟩ := r24_)
      (try obtain ⟨r25_, r26_⟩ := r25_)
      (try obtain ⟨r26_, r27_⟩ := r26_)
      (try obtain ⟨r27_, r28_⟩ := r27_)
      (try obtain ⟨r28_, r29_⟩ := r28_)
      (try obtain ⟨r29_, r30_⟩ := r29_)
      (try obtain ⟨r7_, r8_⟩ := r7_)
      (try obtain ⟨r8_, r9_⟩ := r8_)
      go_simp
      with_reducible rfl
    rotate_left
    · simp only [Act.put, List.setIfInBounds_toArray, List.set_cons_zero, List.set_cons_succ, i64_w, i32_w]
      rfl
    refine take_ (i := 2) (N := some 20) (v := ?_) (a' := ?_) #[true, true, true, false, false, false, false, false, false, false, false, false] rfl rfl (by kernel_rfl) (fun _ _ _ h => h) (Or.inl ⟨by rfl, ?_⟩) hHeld ?_ ?_
    rotate_left
    · rintro w' hHeld'
      have hHeld'' := hHeld'
      (try obtain ⟨r0_, r1_⟩ := hHeld')
      (try obtain ⟨r1_, r2_⟩ := r1_)
      (try obtain ⟨r2_, r3_⟩ := r2_)
      (try obtain ⟨r3_, r4_⟩ := r3_)
      (try obtain ⟨r4_, r5_⟩ := r4_)
      (try obtain ⟨r5_, r6_⟩ := r5_)
      (try obtain ⟨r6_, r7_⟩ := r6_)
      (try obtain ⟨r7_, r8_⟩ := r7_)
      (try obtain ⟨r8_, r9_⟩ := r8_)
      (try obtain ⟨r9_, r10_⟩ := r9_)
      (try obtain ⟨r10_, r11_⟩ := r10_)
      (try obtain ⟨r11_, r12_⟩ := r11_)
      (try obtain ⟨r12_, r13_⟩ := r12_)
      (try obtain ⟨r13_, r14_⟩ := r13_)
      (try obtain ⟨r14_, r15_⟩ := r14_)
      (try obtain ⟨r15_, r16_⟩ := r15_)
      (try obtain ⟨r16_, r17_⟩ := r16_)
      (try obtain ⟨r17_, r18_⟩ := r17_)
      (try obtain ⟨r18_, r19_⟩ := r18_)
      (try obtain ⟨r19_, r20_⟩ := r19_)
      (try obtain ⟨r20_, r21_⟩ := r20_)
      (try obtain ⟨r21_, r22_⟩ := r21_)
      (try obtain ⟨r22_, r23_⟩ := r22_)
      (try obtain ⟨r23_, r24_⟩ := r23_)
      (try obtain ⟨r24_, r25_⟩ := r24_)
      (try obtain ⟨r25_, r26_⟩ := r25_)
      (try obtain ⟨r26_, r27_⟩ := r26_)
      (try obtain ⟨r27_, r28_⟩ := r27_)
      (try obtain ⟨r28_, r29_⟩ := r28_)
      (try obtain ⟨r29_, r30_⟩ := r29_)
      (try obtain ⟨r7_, r8_⟩ := r7_)
      (try obtain ⟨r8_, r9_⟩ := r8_)
      go_simp
      with_reducible rfl
    rotate_left
    · simp only [Act.put, List.setIfInBounds_toArray, List.set_cons_zero, List.set_cons_succ, i64_w, i32_w]
      rfl
    refine take_ (i := 4) (N := some 22) (v := ?_) (a' := ?_) #[true, true, true, false, true, false, false, false, false, false, false, false] rfl rfl (by kernel_rfl) (fun _ _ _ h => h) (Or.inl ⟨by rfl, ?_⟩) hHeld ?_ ?_
    rotate_left
    · rintro w' hHeld'
      have hHeld'' := hHeld'
      (try obtain ⟨r0_, r1_⟩ := hHeld')
      (try obtain ⟨r1_, r2_⟩ := r1_)
      (try obtain ⟨r2_, r3_⟩ := r2_)
      (try obtain ⟨r3_, r4_⟩ := r3_)
      (try obtain ⟨r4_, r5_⟩ := r4_)
      (try obtain ⟨r5_, r6_⟩ := r5_)
      (try obtain ⟨r6_, r7_⟩ := r6_)
      (try obtain ⟨r7_, r8_⟩ := r7_)
      (try obtain ⟨r8_, r9_⟩ := r8_)
      (try obtain ⟨r9_, r10_⟩ := r9_)
      (try obtain ⟨r10_, r11_⟩ := r10_)
      (try obtain ⟨r11_, r12_⟩ := r11_)
      (try obtain ⟨r12_, r13_⟩ := r12_)
      (try obtain ⟨r13_, r14_⟩ := r13_)
      (try obtain ⟨r14_, r15_⟩ := r14_)
      (try obtain ⟨r15_, r16_⟩ := r15_)
      (try obtain ⟨r16_, r17_⟩ := r16_)
      (try obtain ⟨r17_, r18_⟩ := r17_)
      (try obtain ⟨r18_, r19_⟩ := r18_)
      (try obtain ⟨r19_, r20_⟩ := r19_)
      (try obtain ⟨r20_, r21_⟩ := r20_)
      (try obtain ⟨r21_, r22_⟩ := r21_)
      (try obtain ⟨r22_, r23_⟩ := r22_)
      (try obtain ⟨r23_, r24_⟩ := r23_)
      (try obtain ⟨r24_, r25_⟩ := r24_)
      (try obtain ⟨r25_, r26_⟩ := r25_)
      (try obtain ⟨r26_, r27_⟩ := r26_)
      (try obtain ⟨r27_, r28_⟩ := r27_)
      (try obtain ⟨r28_, r29_⟩ := r28_)
      (try obtain ⟨r29_, r30_⟩ := r29_)
      (try obtain ⟨r7_, r8_⟩ := r7_)
      (try obtain ⟨r8_, r9_⟩ := r8_)
      go_simp
      with_reducible rfl
    rotate_left
    · simp only [Act.put, List.setIfInBounds_toArray, List.set_cons_zero, List.set_cons_succ, i64_w, i32_w]
      rfl
    refine take_ (i := 5) (N := some 23) (v := ?_) (a' := ?_) #[true, true, true, false, true, true, false, false, false, false, false, false] rfl rfl (by kernel_rfl) (fun _ _ _ h => h) (Or.inl ⟨by rfl, ?_⟩) hHeld ?_ ?_
    rotate_left
    · rintro w' hHeld'
      have hHeld'' := hHeld'
      (try obtain ⟨r0_, r1_⟩ := hHeld')
      (try obtain ⟨r1_, r2_⟩ := r1_)
      (try obtain ⟨r2_, r3_⟩ := r2_)
      (try obtain ⟨r3_, r4_⟩ := r3_)
      (try obtain ⟨r4_, r5_⟩ := r4_)
      (try obtain ⟨r5_, r6_⟩ := r5_)
      (try obtain ⟨r6_, r7_⟩ := r6_)
      (try obtain ⟨r7_, r8_⟩ := r7_)
      (try obtain ⟨r8_, r9_⟩ := r8_)
      (try obtain ⟨r9_, r10_⟩ := r9_)
      (try obtain ⟨r10_, r11_⟩ := r10_)
      (try obtain ⟨r11_, r12_⟩ := r11_)
      (try obtain ⟨r12_, r13_⟩ := r12_)
      (try obtain ⟨r13_, r14_⟩ := r13_)
      (try obtain ⟨r14_, r15_⟩ := r14_)
      (try obtain ⟨r15_, r16_⟩ := r15_)
      (try obtain ⟨r16_, r17_⟩ := r16_)
      (try obtain ⟨r17_, r18_⟩ := r17_)
      (try obtain ⟨r18_, r19_⟩ := r18_)
      (try obtain ⟨r19_, r20_⟩ := r19_)
      (try obtain ⟨r20_, r21_⟩ := r20_)
      (try obtain ⟨r21_, r22_⟩ := r21_)
      (try obtain ⟨r22_, r23_⟩ := r22_)
      (try obtain ⟨r23_, r24_⟩ := r23_)
      (try obtain ⟨r24_, r25_⟩ := r24_)
      (try obtain ⟨r25_, r26_⟩ := r25_)
      (try obtain ⟨r26_, r27_⟩ := r26_)
      (try obtain ⟨r27_, r28_⟩ := r27_)
      (try obtain ⟨r28_, r29_⟩ := r28_)
      (try obtain ⟨r29_, r30_⟩ := r29_)
      (try obtain ⟨r7_, r8_⟩ := r7_)
      (try obtain ⟨r8_, r9_⟩ := r8_)
      go_simp
      with_reducible rfl
    rotate_left
    · simp only [Act.put, List.setIfInBounds_toArray, List.set_cons_zero, List.set_cons_succ, i64_w, i32_w]
      rfl
    refine take_ (i := 6) (N := some 24) (v := ?_) (a' := ?_) #[true, true, true, false, true, true, true, false, false, false, false, false] rfl rfl (by kernel_rfl) (fun _ _ _ h => h) (Or.inl ⟨by rfl, ?_⟩) hHeld ?_ ?_
    rotate_left
    · rintro w' hHeld'
      have hHeld'' := hHeld'
      (try obtain ⟨r0_, r1_⟩ := hHeld')
      (try obtain ⟨r1_, r2_⟩ := r1_)
      (try obtain ⟨r2_, r3_⟩ := r2_)
      (try obtain ⟨r3_, r4_⟩ := r3_)
      (try obtain ⟨r4_, r5_⟩ := r4_)
      (try obtain ⟨r5_, r6_⟩ := r5_)
      (try obtain ⟨r6_, r7_⟩ := r6_)
      (try obtain ⟨r7_, r8_⟩ := r7_)
      (try obtain ⟨r8_, r9_⟩ := r8_)
      (try obtain ⟨r9_, r10_⟩ := r9_)
      (try obtain ⟨r10_, r11_⟩ := r10_)
      (try obtain ⟨r11_, r12_⟩ := r11_)
      (try obtain ⟨r12_, r13_⟩ := r12_)
      (try obtain ⟨r13_, r14_⟩ := r13_)
      (try obtain ⟨r14_, r15_⟩ := r14_)
      (try obtain ⟨r15_, r16_⟩ := r15_)
      (try obtain ⟨r16_, r17_⟩ := r16_)
      (try obtain ⟨r17_, r18_⟩ := r17_)
      (try obtain ⟨r18_, r19_⟩ := r18_)
      (try obtain ⟨r19_, r20_⟩ := r19_)
      (try obtain ⟨r20_, r21_⟩ := r20_)
      (try obtain ⟨r21_, r22_⟩ := r21_)
      (try obtain ⟨r22_, r23_⟩ := r22_)
      (try obtain ⟨r23_, r24_⟩ := r23_)
      (try obtain ⟨r24_, r25_⟩ := r24_)
      (try obtain ⟨r25_, r26_⟩ := r25_)
      (try obtain ⟨r26_, r27_⟩ := r26_)
      (try obtain ⟨r27_, r28_⟩ := r27_)
      (try obtain ⟨r28_, r29_⟩ := r28_)
      (try obtain ⟨r29_, r30_⟩ := r29_)
      (try obtain ⟨r7_, r8_⟩ := r7_)
      (try obtain ⟨r8_, r9_⟩ := r8_)
      go_simp
      with_reducible rfl
    rotate_left
    · simp only [Act.put, List.setIfInBounds_toArray, List.set_cons_zero, List.set_cons_succ, i64_w, i32_w]
      rfl
    refine take_ (i := 7) (N := some 25) (v := ?_) (a' := ?_) #[true, true, true, false, true, true, true, true, false, false, false, false] rfl rfl (by kernel_rfl) (fun _ _ _ h => h) (Or.inl ⟨by rfl, ?_⟩) hHeld ?_ ?_
    rotate_left
    · rintro w' hHeld'
      have hHeld'' := hHeld'
      (try obtain ⟨r0_, r1_⟩ := hHeld')
      (try obtain ⟨r1_, r2_⟩ := r1_)
      (try obtain ⟨r2_, r3_⟩ := r2_)
      (try obtain ⟨r3_, r4_⟩ := r3_)
      (try obtain ⟨r4_, r5_⟩ := r4_)
      (try obtain ⟨r5_, r6_⟩ := r5_)
      (try obtain ⟨r6_, r7_⟩ := r6_)
      (try obtain ⟨r7_, r8_⟩ := r7_)
      (try obtain ⟨r8_, r9_⟩ := r8_)
      (try obtain ⟨r9_, r10_⟩ := r9_)
      (try obtain ⟨r10_, r11_⟩ := r10_)
      (try obtain ⟨r11_, r12_⟩ := r11_)
      (try obtain ⟨r12_, r13_⟩ := r12_)
      (try obtain ⟨r13_, r14_⟩ := r13_)
      (try obtain ⟨r14_, r15_⟩ := r14_)
      (try obtain ⟨r15_, r16_⟩ := r15_)
      (try obtain ⟨r16_, r17_⟩ := r16_)
      (try obtain ⟨r17_, r18_⟩ := r17_)
      (try obtain ⟨r18_, r19_⟩ := r18_)
      (try obtain ⟨r19_, r20_⟩ := r19_)
      (try obtain ⟨r20_, r21_⟩ := r20_)
      (try obtain ⟨r21_, r22_⟩ := r21_)
      (try obtain ⟨r22_, r23_⟩ := r22_)
      (try obtain ⟨r23_, r24_⟩ := r23_)
      (try obtain ⟨r24_, r25_⟩ := r24_)
      (try obtain ⟨r25_, r26_⟩ := r25_)
      (try obtain ⟨r26_, r27_⟩ := r26_)
      (try obtain ⟨r27_, r28_⟩ := r27_)
      (try obtain ⟨r28_, r29_⟩ := r28_)
      (try obtain ⟨r29_, r30_⟩ := r29_)
      (try obtain ⟨r7_, r8_⟩ := r7_)
      (try obtain ⟨r8_, r9_⟩ := r8_)
      go_simp
      with_reducible rfl
    rotate_left
    · simp only [Act.put, List.setIfInBounds_toArray, List.set_cons_zero, List.set_cons_succ, i64_w, i32_w]
      rfl
    refine one_ (i := 3) (N := some 21) #[true, true, true, true, true, true, true, true, false, false, false, false] rfl rfl (by kernel_rfl) (by decide) (fun K hSh => ?_)
    refine goes_ Try.func86 (by kernel_rfl) rfl #[ptr pb, .int .i64 x, .int .i64 s] (by rfl) rfl rfl (by (try simp only [List.map_toArray, List.map_cons, List.map_nil]); rfl) ?_
    refine (qRetire (h2.drewN 1) x s).mono ?_
    rintro e W3 ⟨rfl, h3, hF⟩
    have hK3 := hF.blk (h2.drewN 1).A (show (W.drewN 1).heap[W1.heap.size]? = _ from hK) (by decide) (by decide)
    refine ⟨_, rfl, ?_⟩
    refine hSh.out _ _ ((blk_cell hK3 2).trans rfl) ?_
    clear hHeld
    intro hHeld
    refine norm_ (a' := ?_) ?_ ?_
    rotate_left
    · simp only [Act.put, List.setIfInBounds_toArray, List.set_cons_zero, List.set_cons_succ, i64_w, i32_w]
      rfl
    have HF3 := Lib.hid ((HF1.out.trans (Fr.of_below (pw_below_drewN (Below.refl _ _) 1) mb cb)).trans hF)
    clear hF hK h2
    refine one_ (i := 8) (N := some 26) #[true, true, true, true, true, true, true, true, true, false, false, false] rfl rfl (by kernel_rfl) (by decide) (fun K hSh => ?_)
    refine goes_ Try.func86 (by kernel_rfl) rfl #[ptr pb, .int .i64 vc, .int .i64 s] (by rfl) rfl rfl (by (try simp only [List.map_toArray, List.map_cons, List.map_nil]); rfl) ?_
    refine (qRetire h3 vc s).mono ?_
    rintro e W4 ⟨rfl, h4, hF⟩
    have hK4 := hF.blk h3.A hK3 (by decide) (by decide)
    refine ⟨_, rfl, ?_⟩
    refine hSh.out _ _ ((blk_cell hK4 2).trans rfl) ?_
    clear hHeld
    intro hHeld
    refine norm_ (a' := ?_) ?_ ?_
    rotate_left
    · simp only [Act.put, List.setIfInBounds_toArray, List.set_cons_zero, List.set_cons_succ, i64_w, i32_w]
      rfl
    have HF4 := Lib.hid (HF3.out.trans hF)
    clear hF hK3 h3
    generalize (M2.retire x s).2 = f1 at *
    generalize ((M2.retire x s).1.retire vc s).2 = f2 at *
    refine one_ (i := 9) (N := some 27) #[true, true, true, true, true, true, true, true, true, true, false, false] rfl rfl (by kernel_rfl) (by decide) (fun K hSh => ?_)
    refine value_ (v := .slice (some ⟨W4.heap.size, 0, none⟩) 2 2) (w1 := W4.alloc (.cells #[.int .i64 f1, .int .i64 f2] 44)) (by rfl) rfl (by go_simp <;> rfl) ?_
    have hK5 := blk_alloc hK4 (.cells #[.int .i64 f1, .int .i64 f2] 44)
    have h5 := h4.alloc (.cells #[.int .i64 f1, .int .i64 f2] 44)
    have hk5 := blk_new W4 (.cells #[.int .i64 f1, .int .i64 f2] 44)
    have HF5 := Lib.hid (HF4.out.alloc (.cells #[.int .i64 f1, .int .i64 f2] 44))
    refine hSh.out _ _ ((blk_cell hK5 2).trans rfl) ?_
    clear hHeld
    intro hHeld
    refine norm_ (a' := ?_) ?_ ?_
    rotate_left
    · simp only [Act.put, List.setIfInBounds_toArray, List.set_cons_zero, List.set_cons_succ, i64_w, i32_w]
      rfl
    refine one_ (i := 10) (N := some 28) #[true, true, true, true, true, true, true, true, true, true, true, false] rfl rfl (by kernel_rfl) (by decide) (fun K hSh => ?_)
    refine goes_ Try.func85 (by kernel_rfl) rfl #[.slice (some ⟨W4.heap.size, 0, none⟩) 2 2] (by rfl) rfl rfl (by (try simp only [List.map_toArray, List.map_cons, List.map_nil]); rfl) ?_
    refine (firstOf_calls hk5).mono ?_
    rintro e W6 ⟨rfl, rfl⟩
    refine ⟨_, rfl, ?_⟩
    refine hSh.out _ _ ((blk_cell hK5 2).trans rfl) ?_
    clear hHeld
    intro hHeld
    refine norm_ (a' := ?_) ?_ ?_
    rotate_left
    · simp only [Act.put, List.setIfInBounds_toArray, List.set_cons_zero, List.set_cons_succ, i64_w, i32_w]
      rfl
    refine pure_ (i := 11) (N := some 6) (v := ?_) (a' := ?_) #[true, true, true, true, true, true, true, true, true, true, true, true] rfl rfl (by kernel_rfl) (fun _ _ _ h => h) (Or.inl ⟨by rfl, ?_⟩) ?_ ?_
    rotate_left
    · intro w'
      go_simp
      with_reducible rfl
    rotate_left
    · simp only [Act.put, List.setIfInBounds_toArray, List.set_cons_zero, List.set_cons_succ, i64_w, i32_w]
      rfl
    refine done_ (by kernel_rfl) ?_
    clear hHeld hK4 hK5 hk5
    go_wp2_with fail
    go_ret
    exact ⟨rfl, h5, HF5.out⟩
  · have g1 : (e2 != 0) = true := by simpa using he
    rw [if_pos he] at hy
    injection hy with hy1 hy2
    subst hy1 hy2
    go_wp2_with fail
    rw [← HW.out]
    go_ret
    exact ⟨rfl, h2, HF1.out⟩
set_option maxHeartbeats 1600000 in
set_option maxRecDepth 100000 in
theorem publish_calls (h : St w0 w pb mb cb m) (x o n : Int) : Calls Try.prog 69 #[ptr pb, .int .i64 x, .int .i64 o, .int .i64 n] w (Endp w0 w pb mb cb (.tuple #[.bool (m.swap x o n).2.1, .int .i64 (m.swap x o n).2.2]) (m.swap x o n).1) := by
  obtain ⟨M1, y1, e1, hy⟩ : ∃ M1 y1 e1, m.swap x o n = (M1, y1, e1) := ⟨_, _, _, rfl⟩
  rw [hy]
  have HY := Lib.hid hy
  clear hy
  go_enter Try.func69, Try.ntmps69
  go_wp2_with fail
  refine (qSwap h x o n).mono ?_
  rw [HY.out]
  rintro e W1 ⟨rfl, h1, hF⟩
  go_wp2_with fail
  go_ret2
  exact ⟨rfl, h1, hF⟩
set_option maxHeartbeats 1600000 in
set_option maxRecDepth 100000 in
theorem clone_nil (w : World) : Calls Try.prog 89 #[.slice none 0 0] w fun e w' => e = .returned (.slice none 0 0) ∧ w = w' := by
  have hnn := fun W => run_eql_nil_slice (P := Try.prog) W 49 117 none 0 0 0 0 Try.underlying49
  go_enter Try.func89, Try.ntmps89
  go_wp2
  go_ret
  exact ⟨rfl, rfl⟩
set_option maxHeartbeats 1600000 in
set_option maxRecDepth 100000 in
theorem make_nil (h : St w0 w pb mb cb m) (v b : Int) : Calls Try.prog 38 #[ptr pb, .int .i64 v, .int .i64 b, .slice none 0 0] w (Endp w0 w pb mb cb (.tuple #[.int .i64 (m.laid 0 ⟨v, b, 0, none, 0, 0⟩).2.1, .int .i64 (m.laid 0 ⟨v, b, 0, none, 0, 0⟩).2.2]) (m.laid 0 ⟨v, b, 0, none, 0, 0⟩).1) := by
  obtain ⟨M1, y1, e1, hy⟩ : ∃ M1 y1 e1, m.laid 0 ⟨v, b, 0, none, 0, 0⟩ = (M1, y1, e1) := ⟨_, _, _, rfl⟩
  rw [hy]
  have HY := Lib.hid hy
  clear hy
  go_enter Try.func38, Try.ntmps38
  go_wp2_with fail
  refine (clone_nil w).mono ?_
  rintro e w1 ⟨rfl, rfl⟩
  go_wp2_with fail
  refine (laid_calls h 0 ⟨v, b, 0, none, 0, 0⟩).mono ?_
  rw [HY.out]
  rintro e W1 ⟨rfl, h1, hF⟩
  go_wp2_with fail
  go_ret2
  exact ⟨rfl, h1, hF⟩
set_option maxHeartbeats 1600000 in
set_option maxRecDepth 100000 in
theorem help_nil (h : St w0 w pb mb cb m) (va vb vc : Int) : Calls Try.prog 43 #[ptr pb, .agg #[.int .i64 va, .int .i64 vb, .int .i64 vc, .slice none 0 0]] w (Endp w0 w pb mb cb (.int .i64 (m.swap vc 0 1).2.2) (m.swap vc 0 1).1) := by
  obtain ⟨M1, y1, e1, hy⟩ : ∃ M1 y1 e1, m.swap vc 0 1 = (M1, y1, e1) := ⟨_, _, _, rfl⟩
  rw [hy]
  have HY := Lib.hid hy
  clear hy
  obtain ⟨W, hW⟩ : ∃ W : World, W = w.alloc (.cells #[.int .i64 va, .int .i64 vb, .int .i64 vc, .slice none 0 0] 51) := ⟨_, rfl⟩
  have hb : Below w.heap.size w W := hW ▸ below_alloc (Below.refl _ _) _
  have hK : W.heap[w.heap.size]? = some (.cells #[.int .i64 va, .int .i64 vb, .int .i64 vc, .slice none 0 0] 51 (0, 0)) := hW ▸ blk_new w _
  have h1 := h.below hb
  have HW := Lib.hid hW
  have HF1 := Lib.hid (Fr.of_below hb mb cb)
  obtain ⟨k0, k1, k2, k3⟩ := box4 hK
  clear hW hb h hK
  go_enter Try.func43, Try.ntmps43
  go_upto_region 1 with fail
  rw [← HW.out]
  go_wp2_with fail
  refine wp_loop_rounds 1 ?_
  rw [rounds_succ]
  go_wp2_with fail
  refine (qSwap h1 vc 0 1).mono ?_
  rw [HY.out]
  rintro e W1 ⟨rfl, h2, hF⟩
  have HF2 := Lib.hid (HF1.out.trans hF)
  clear hF
  go_wp2_with fail
  go_ret
  exact ⟨rfl, h2, HF2.out⟩
end
end Go.Proofs.Ytahnmklofgnagaa.Mem
