/- Descriptors, by a port that asks memory at once: laid, firstOf, Undo, Drop, Init, Latest, Version, Help. -/
import Derived.Test.YtahnmklofgnagaaDesc0
import Derived.Deep.DeepCutAuto
import Derived.LoopN
namespace Go.Proofs.Ytahnmklofgnagaa.Mem
open Go.RowKit Go.Proofs.YtahnmklofgnagaaW.PrintWords Go.Proofs.YtahnmklofgnagaaW.PrintLast Go.Proofs.Ytahnmklofgnagaa.Tags
set_option linter.unusedVariables false
set_option linter.unusedSimpArgs false
section
variable {w0 w w' : World} {pb mb cb : Nat} {m m' : M}
theorem okv_desc (d : D) : OkV (.iface 51 d.v) := Or.inr (Or.inr ⟨_, _, rfl, by decide⟩)
def M.laid (m : M) (s : Int) (d : D) : M × Int × Int :=
  if (m.alloc (number s)).2.2 ≠ 0 then ((m.alloc (number s)).1, 0, (m.alloc (number s)).2.2)
  else if ((m.alloc (number s)).1.alloc (.iface 51 (D.v { d with st := (m.alloc (number s)).2.1 }))).2.2 ≠ 0 then
    ((((m.alloc (number s)).1.alloc (.iface 51 (D.v { d with st := (m.alloc (number s)).2.1 }))).1.free (m.alloc (number s)).2.1).1, 0, ((m.alloc (number s)).1.alloc (.iface 51 (D.v { d with st := (m.alloc (number s)).2.1 }))).2.2)
  else (((m.alloc (number s)).1.alloc (.iface 51 (D.v { d with st := (m.alloc (number s)).2.1 }))).1, ((m.alloc (number s)).1.alloc (.iface 51 (D.v { d with st := (m.alloc (number s)).2.1 }))).2.1, 0)
set_option maxHeartbeats 1600000 in
set_option maxRecDepth 100000 in
theorem laid_calls (h : St w0 w pb mb cb m) (s : Int) (d : D) : Calls Try.prog 88 #[ptr pb, .int .i64 s, d.v] w (Endp w0 w pb mb cb (.tuple #[.int .i64 (m.laid s d).2.1, .int .i64 (m.laid s d).2.2]) (m.laid s d).1) := by
  obtain ⟨M1, y1, e1, hy⟩ : ∃ M1 y1 e1, m.laid s d = (M1, y1, e1) := ⟨_, _, _, rfl⟩
  rw [hy]
  unfold M.laid at hy
  obtain ⟨va, vb, vc, vA, vn, vk⟩ := d
  obtain ⟨W, hW⟩ : ∃ W : World, W = w.alloc (.cells #[.int .i64 va, .int .i64 vb, .int .i64 vc, .slice vA vn vk] 51) := ⟨_, rfl⟩
  have hb : Below w.heap.size w W := hW ▸ below_alloc (Below.refl _ _) _
  have hK : W.heap[w.heap.size]? = some (.cells #[.int .i64 va, .int .i64 vb, .int .i64 vc, .slice vA vn vk] 51 (0, 0)) := hW ▸ blk_new w _
  have h1 := h.below hb
  have hbw : w0.heap.size ≤ w.heap.size := h.F.size
  have HW := Lib.hid hW
  have HF1 := Lib.hid (Fr.of_below hb mb cb)
  clear hW hb h
  go_enter Try.func88, Try.ntmps88
  go_wp2_with fail
  rw [← HW.out]
  refine (qAllocWord h1 s).mono ?_
  rintro e W2 ⟨rfl, h2, hF⟩
  have hK2 := hF.blk h1.A hK (by decide) (by decide)
  have HF2 := Lib.hid (HF1.out.trans hF)
  generalize m.alloc (number s) = r at *
  obtain ⟨M2, y2, e2⟩ := r
  simp only at h2 hy ⊢
  clear hF h1 hK HF1
  by_cases he : e2 = 0
  · subst he
    rw [if_neg (by decide)] at hy
    obtain ⟨k0, k1, k2, k3⟩ := box4 hK2
    have z2 := blk_frozen hK2 2
    obtain ⟨W3, hW3⟩ : ∃ W3 : World, W3 = W2.setCell ⟨w.heap.size, 2, none⟩ (.int .i64 y2) := ⟨_, rfl⟩
    have h3 : St w0 W3 pb mb cb M2 := hW3 ▸ h2.set hK2 (by decide) (by decide) (by decide) hbw _
    have hK3 : W3.heap[w.heap.size]? = some (.cells #[.int .i64 va, .int .i64 vb, .int .i64 y2, .slice vA vn vk] 51 (0, 0)) := hW3 ▸ blk_put hK2 2 (.int .i64 y2) rfl
    have HF3 := Lib.hid (show Fr w W3 mb cb from hW3 ▸ HF2.out.only (Only.set W2 ⟨w.heap.size, 2, none⟩ (.int .i64 y2)) (Nat.le_refl _))
    have HW3 := Lib.hid hW3
    clear hW3 h2
    go_upto_region 5 with fail
    rw [← HW3.out]
    clear k0 k1 k2 k3 z2 HW3 hK2
    obtain ⟨k0, k1, k2, k3⟩ := box4 hK3
    have HK3 := Lib.hid hK3
    clear hK3
    go_wp2_with fail
    refine (qAlloc h3 51 (D.v ⟨va, vb, y2, vA, vn, vk⟩) (okv_desc _)).mono ?_
    rintro e W4 ⟨rfl, h4, hF⟩
    have HF4 := Lib.hid (HF3.out.trans hF)
    generalize M2.alloc (.iface 51 (D.v ⟨va, vb, y2, vA, vn, vk⟩)) = r at *
    obtain ⟨M3, y3, e3⟩ := r
    simp only at h4 hy ⊢
    clear hF h3 k0 k1 k2 k3 HK3 HF3 HF2
    by_cases he : e3 = 0
    · subst he
      rw [if_neg (by decide)] at hy
      injection hy with hy1 hy
      injection hy with hy2 hy3
      subst hy1 hy2 hy3
      go_wp2_with fail
      go_ret2
      exact ⟨rfl, h4, HF4.out⟩
    · have g1 : (e3 != 0) = true := by simpa using he
      rw [if_pos he] at hy
      injection hy with hy1 hy
      injection hy with hy2 hy3
      subst hy1 hy2 hy3
      go_wp2_with fail
      refine (qFree h4 y2).mono ?_
      rintro e W5 ⟨rfl, h5, hF⟩
      have HF5 := Lib.hid (HF4.out.trans hF)
      clear hF h4
      go_wp2_with fail
      go_ret2
      exact ⟨rfl, h5, HF5.out⟩
  · have g1 : (e2 != 0) = true := by simpa using he
    rw [if_pos he] at hy
    injection hy with hy1 hy
    injection hy with hy2 hy3
    subst hy1 hy2 hy3
    clear hK2
    go_wp2_with fail
    go_ret2
    exact ⟨rfl, h2, HF2.out⟩
def first2 (a b : Int) : Int := if a = 0 then b else a
set_option maxHeartbeats 1600000 in
set_option maxRecDepth 100000 in
theorem firstOf_calls {g : Nat} {a b : Int} (hk : w.heap[g]? = some (.cells #[.int .i64 a, .int .i64 b] 44 (0, 0))) : Calls Try.prog 85 #[.slice (some ⟨g, 0, none⟩) 2 2] w fun e w' => e = .returned (.int .i64 (first2 a b)) ∧ w = w' := by
  have k0 := (blk_cell hk 0).trans rfl
  have k1 := (blk_cell hk 1).trans rfl
  obtain ⟨y, hy⟩ : ∃ y, first2 a b = y := ⟨_, rfl⟩
  rw [hy]
  unfold first2 at hy
  clear hk
  by_cases ha : a = 0
  · subst ha
    rw [if_pos rfl] at hy
    subst hy
    by_cases hb : b = 0
    · subst hb
      go_enter Try.func85, Try.ntmps85
      go_wp2
      refine wp_loop_rounds 3 ?_
      rw [rounds_succ]
      go_wp2
      rw [rounds_succ]
      go_wp2
      rw [rounds_succ]
      go_wp2
      go_ret
      exact ⟨rfl, rfl⟩
    · have g1 : (b != 0) = true := by simpa using hb
      go_enter Try.func85, Try.ntmps85
      go_wp2
      refine wp_loop_rounds 3 ?_
      rw [rounds_succ]
      go_wp2
      rw [rounds_succ]
      go_wp2
      go_ret
      exact ⟨rfl, rfl⟩
  · have g1 : (a != 0) = true := by simpa using ha
    rw [if_neg ha] at hy
    subst hy
    go_enter Try.func85, Try.ntmps85
    go_wp2
    refine wp_loop_rounds 3 ?_
    rw [rounds_succ]
    go_wp2
    go_ret
    exact ⟨rfl, rfl⟩
def M.undo (m : M) (x : Int) : M × Int := if (m.dload x).2.2 ≠ 0 then ((m.dload x).1, (m.dload x).2.2)
  else ((((m.dload x).1.free x).1.free (m.dload x).2.1.st).1, first2 ((m.dload x).1.free x).2 (((m.dload x).1.free x).1.free (m.dload x).2.1.st).2)
set_option maxHeartbeats 1600000 in
set_option maxRecDepth 100000 in
theorem undo_calls (h : St w0 w pb mb cb m) (ho : m.okd = true) (x : Int) : Calls Try.prog 28 #[ptr pb, .int .i64 x] w (Endp w0 w pb mb cb (.int .i64 (m.undo x).2) (m.undo x).1) := by
  obtain ⟨M1, e1, hy⟩ : ∃ M1 e1, m.undo x = (M1, e1) := ⟨_, _, rfl⟩
  rw [hy]
  unfold M.undo at hy
  have hbw : w0.heap.size ≤ w.heap.size := h.F.size
  go_enter Try.func28, Try.ntmps28
  go_wp2_with fail
  refine (dload_calls h ho x).mono ?_
  rintro e W1 ⟨rfl, h1, hF⟩
  generalize m.dload x = r at *
  obtain ⟨M2, d, e2⟩ := r
  obtain ⟨va, vb, vc, vA, vn, vk⟩ := d
  simp only at h1 hy ⊢
  obtain ⟨W, hW⟩ : ∃ W : World, W = W1.alloc (.cells #[.int .i64 va, .int .i64 vb, .int .i64 vc, .slice vA vn vk] 51) := ⟨_, rfl⟩
  have hb : Below W1.heap.size W1 W := hW ▸ below_alloc (Below.refl _ _) _
  have hK : W.heap[W1.heap.size]? = some (.cells #[.int .i64 va, .int .i64 vb, .int .i64 vc, .slice vA vn vk] 51 (0, 0)) := hW ▸ blk_new W1 _
  have h2 := h1.below hb
  have HF1 := Lib.hid (hF.trans (Fr.of_below hb mb cb))
  have HW := Lib.hid hW
  clear hW hb h hF h1
  by_cases he : e2 = 0
  · subst he
    rw [if_neg (by decide)] at hy
    injection hy with hy1 hy2
    subst hy1 hy2
    go_upto_region 4 with fail
    rw [← HW.out]
    refine start_ (n := 10) (S := fun w' => w'.cell? ⟨W1.heap.size, 2, none⟩ = some (.int .i64 vc)) (ds := []) #[false, false, false, false, false, false, false, false, false, false] rfl rfl rfl ((blk_cell (show (W.drewN 1).heap[W1.heap.size]? = _ from hK) 2).trans rfl) ?_
    intro hHeld
    refine take_ (i := 0) (N := some 16) (v := ?_) (a' := ?_) #[true, false, false, false, false, false, false, false, false, false] rfl rfl (by kernel_rfl) (fun _ _ _ h => h) (Or.inl ⟨by rfl, ?_⟩) hHeld ?_ ?_
    rotate_left
    · rintro w' hHeld'
      have hHeld'' := hHeld'
      (try obtain ⟨r0_, r1_⟩ := hHeld')
      (try obtain ⟨r1_, r2_⟩ := r1_)
      (try obtain ⟨r2_, r3_⟩ := r2_)
      (try obtain ⟨r3_, r4_⟩ := r3_)
      (try obtain ⟨r4_, r5_⟩ := r4_)
      (try obtain ⟨r5_, r6_⟩ := r5_)
      (try obtain ⟨r6_, r7_⟩ := r6_)
      (try obtain ⟨r7_, r8_⟩ := r7_)
      (try obtain ⟨r8_, r9_⟩ := r8_)
      (try obtain ⟨r9_, r10_⟩ := r9_)
      (try obtain ⟨r10_, r11_⟩ := r10_)
      (try obtain ⟨r11_, r12_⟩ := r11_)
      (try obtain ⟨r12_, r13_⟩ := r12_)
      (try obtain ⟨r13_, r14_⟩ := r13_)
      (try obtain ⟨r14_, r15_⟩ := r14_)
      (try obtain ⟨r15_, r16_⟩ := r15_)
      (try obtain ⟨r16_, r17_⟩ := r16_)
      (try obtain ⟨r17_, r18_⟩ := r17_)
      (try obtain ⟨r18_, r19_⟩ := r18_)
      (try obtain ⟨r19_, r20_⟩ := r19_)
      (try obtain ⟨r20_, r21_⟩ := r20_)
      (try obtain ⟨r21_, r22_⟩ := r21_)
      (try obtain ⟨r22_, r23_⟩ := r22_)
      (try obtain ⟨r23_, r24_⟩ := r23_)
      (try obtain ⟨r24_, r25_⟩ := r24_)
      (try obtain ⟨r25_, r26_⟩ := r25_)
      (try obtain ⟨r26_, r27_⟩ := r26_)
      (try obtain ⟨r27_, r28_⟩ := r27_)
      (try obtain ⟨r28_, r29_⟩ := r28_)
      (try obtain ⟨r29_, r30_⟩ := r29_)
      (try obtain ⟨r7_, r8_⟩ := r7_)
      (try obtain ⟨r8_, r9_⟩ := r8_)
      go_simp
      with_reducible rfl
    rotate_left
    · simp only [Act.put, List.setIfInBounds_toArray, List.set_cons_zero, List.set_cons_succ, i64_w, i32_w]
      rfl
    refine take_ (i := 1) (N := some 17) (v := ?_) (a' := ?_) #[true, true, false, false, false, false, false, false, false, false] rfl rfl (by kernel_rfl) (fun _ _ _ h => h) (Or.inl ⟨by rfl, ?_⟩) hHeld ?_ ?_
    rotate_left
    · rintro w' hHeld'
      have hHeld'' := hHeld'
      (try obtain ⟨r0_, r1_⟩ := hHeld')
      (try obtain ⟨r1_, r2_⟩ := r1_)
      (try obtain ⟨r2_, r3_⟩ := r2_)
      (try obtain ⟨r3_, r4_⟩ := r3_)
      (try obtain ⟨r4_, r5_⟩ := r4_)
      (try obtain ⟨r5_, r6_⟩ := r5_)
      (try obtain ⟨r6_, r7_⟩ := r6_)
      (try obtain ⟨r7_, r8_⟩ := r7_)
      (try obtain ⟨r8_, r9_⟩ := r8_)
      (try obtain ⟨r9_, r10_⟩ := r9_)
      (try obtain ⟨r10_, r11_⟩ := r10_)
      (try obtain ⟨r11_, r12_⟩ := r11_)
      (try obtain ⟨r12_, r13_⟩ := r12_)
      (try obtain ⟨r13_, r14_⟩ := r13_)
      (try obtain ⟨r14_, r15_⟩ := r14_)
      (try obtain ⟨r15_, r16_⟩ := r15_)
      (try obtain ⟨r16_, r17_⟩ := r16_)
      (try obtain ⟨r17_, r18_⟩ := r17_)
      (try obtain ⟨r18_, r19_⟩ := r18_)
      (try obtain ⟨r19_, r20_⟩ := r19_)
      (try obtain ⟨r20_, r21_⟩ := r20_)
      (try obtain ⟨r21_, r22_⟩ := r21_)
      (try obtain ⟨r22_, r23_⟩ := r22_)
      (try obtain ⟨r23_, r24_⟩ := r23_)
      (try obtain ⟨r24_, r25_⟩ := r24_)
      (try obtain ⟨r25_, r26_⟩ := r25_)
      (try obtain ⟨r26_, r27_⟩ := r26_)
      (try obtain ⟨r27_, r28_⟩ := r27_)
      (try obtain ⟨r28_, r29_⟩ := r28_)
      (try obtain ⟨r29_, r30_⟩ := r29_)
      (try obtain ⟨r7_, r8_⟩ := r7_)
      (try obtain ⟨r8_, r9_⟩ := r8_)
      go_simp
      with_reducible rfl
    rotate_left
    · simp only [Act.put, List.setIfInBounds_toArray, List.set_cons_zero, List.set_cons_succ, i64_w, i32_w]
      rfl
    refine take_ (i := 3) (N := some 19) (v := ?_) (a' := ?_) #[true, true, false, true, false, false, false, false, false, false] rfl rfl (by kernel_rfl) (fun _ _ _ h => h) (Or.inl ⟨by rfl, ?_⟩) hHeld ?_ ?_
    rotate_left
    · rintro w' hHeld'
      have hHeld'' := hHeld'
      (try obtain ⟨r0_, r1_⟩ := hHeld')
      (try obtain ⟨r1_, r2_⟩ := r1_)
      (try obtain ⟨r2_, r3_⟩ := r2_)
      (try obtain ⟨r3_, r4_⟩ := r3_)
      (try obtain ⟨r4_, r5_⟩ := r4_)
      (try obtain ⟨r5_, r6_⟩ := r5_)
      (try obtain ⟨r6_, r7_⟩ := r6_)
      (try obtain ⟨r7_, r8_⟩ := r7_)
      (try obtain ⟨r8_, r9_⟩ := r8_)
      (try obtain ⟨r9_, r10_⟩ := r9_)
      (try obtain ⟨r10_, r11_⟩ := r10_)
      (try obtain ⟨r11_, r12_⟩ := r11_)
      (try obtain ⟨r12_, r13_⟩ := r12_)
      (try obtain ⟨r13_, r14_⟩ := r13_)
      (try obtain ⟨r14_, r15_⟩ := r14_)
      (try obtain ⟨r15_, r16_⟩ := r15_)
      (try obtain ⟨r16_, r17_⟩ := r16_)
      (try obtain ⟨r17_, r18_⟩ := r17_)
      (try obtain ⟨r18_, r19_⟩ := r18_)
      (try obtain ⟨r19_, r20_⟩ := r19_)
      (try obtain ⟨r20_, r21_⟩ := r20_)
      (try obtain ⟨r21_, r22_⟩ := r21_)
      (try obtain ⟨r22_, r23_⟩ := r22_)
      (try obtain ⟨r23_, r24_⟩ := r23_)
      (try obtain ⟨r24_, r25_⟩ := r24_)
      (try obtain ⟨r25_, r26_⟩ := r25_)
      (try obtain ⟨r26_, r27_⟩ := r26_)
      (try obtain ⟨r27_, r28_⟩ := r27_)
      (try obtain ⟨r28_, r29_⟩ := r28_)
      (try obtain ⟨r29_, r30_⟩ := r29_)
      (try obtain ⟨r7_, r8_⟩ := r7_)
      (try obtain ⟨r8_, r9_⟩ := r8_)
      go_simp
      with_reducible rfl
    rotate_left
    · simp only [Act.put, List.setIfInBounds_toArray, List.set_cons_zero, List.set_cons_succ, i64_w, i32_w]
      rfl
    refine take_ (i := 4) (N := some 20) (v := ?_) (a' := ?_) #[true, true, false, true, true, false, false, false, false, false] rfl rfl (by kernel_rfl) (fun _ _ _ h => h) (Or.inl ⟨by rfl, ?_⟩) hHeld ?_ ?_
    rotate_left
    · rintro w' hHeld'
      have hHeld'' := hHeld'
      (try obtain ⟨r0_, r1_⟩ := hHeld')
      (try obtain ⟨r1_, r2_⟩ := r1_)
      (try obtain ⟨r2_, r3_⟩ := r2_)
      (try obtain ⟨r3_, r4_⟩ := r3_)
      (try obtain ⟨r4_, r5_⟩ := r4_)
      (try obtain ⟨r5_, r6_⟩ := r5_)
      (try obtain ⟨r6_, r7_⟩ := r6_)
      (try obtain ⟨r7_, r8_⟩ := r7_)
      (try obtain ⟨r8_, r9_⟩ := r8_)
      (try obtain ⟨r9_, r10_⟩ := r9_)
      (try obtain ⟨r10_, r11_⟩ := r10_)
      (try obtain ⟨r11_, r12_⟩ := r11_)
      (try obtain ⟨r12_, r13_⟩ := r12_)
      (try obtain ⟨r13_, r14_⟩ := r13_)
      (try obtain ⟨r14_, r15_⟩ := r14_)
      (try obtain ⟨r15_, r16_⟩ := r15_)
      (try obtain ⟨r16_, r17_⟩ := r16_)
      (try obtain ⟨r17_, r18_⟩ := r17_)
      (try obtain ⟨r18_, r19_⟩ := r18_)
      (try obtain ⟨r19_, r20_⟩ := r19_)
      (try obtain ⟨r20_, r21_⟩ := r20_)
      (try obtain ⟨r21_, r22_⟩ := r21_)
      (try obtain ⟨r22_, r23_⟩ := r22_)
      (try obtain ⟨r23_, r24_⟩ := r23_)
      (try obtain ⟨r24_, r25_⟩ := r24_)
      (try obtain ⟨r25_, r26_⟩ := r25_)
      (try obtain ⟨r26_, r27_⟩ := r26_)
      (try obtain ⟨r27_, r28_⟩ := r27_)
      (try obtain ⟨r28_, r29_⟩ := r28_)
      (try obtain ⟨r29_, r30_⟩ := r29_)
      (try obtain ⟨r7_, r8_⟩ := r7_)
      (try obtain ⟨r8_, r9_⟩ := r8_)
      go_simp
      with_reducible rfl
    rotate_left
    · simp only [Act.put, List.setIfInBounds_toArray, List.set_cons_zero, List.set_cons_succ, i64_w, i32_w]
      rfl
    refine take_ (i := 5) (N := some 21) (v := ?_) (a' := ?_) #[true, true, false, true, true, true, false, false, false, false] rfl rfl (by kernel_rfl) (fun _ _ _ h => h) (Or.inl ⟨by rfl, ?_⟩) hHeld ?_ ?_
    rotate_left
    · rintro w' hHeld'
      have hHeld'' := hHeld'
      (try obtain ⟨r0_, r1_⟩ := hHeld')
      (try obtain ⟨r1_, r2_⟩ := r1_)
      (try obtain ⟨r2_, r3_⟩ := r2_)
      (try obtain ⟨r3_, r4_⟩ := r3_)
      (try obtain ⟨r4_, r5_⟩ := r4_)
      (try obtain ⟨r5_, r6_⟩ := r5_)
      (try obtain ⟨r6_, r7_⟩ := r6_)
      (try obtain ⟨r7_, r8_⟩ := r7_)
      (try obtain ⟨r8_, r9_⟩ := r8_)
      (try obtain ⟨r9_, r10_⟩ := r9_)
      (try obtain ⟨r10_, r11_⟩ := r10_)
      (try obtain ⟨r11_, r12_⟩ := r11_)
      (try obtain ⟨r12_, r13_⟩ := r12_)
      (try obtain ⟨r13_, r14_⟩ := r13_)
      (try obtain ⟨r14_, r15_⟩ := r14_)
      (try obtain ⟨r15_, r16_⟩ := r15_)
      (try obtain ⟨r16_, r17_⟩ := r16_)
      (try obtain ⟨r17_, r18_⟩ := r17_)
      (try obtain ⟨r18_, r19_⟩ := r18_)
      (try obtain ⟨r19_, r20_⟩ := r19_)
      (try obtain ⟨r20_, r21_⟩ := r20_)
      (try obtain ⟨r21_, r22_⟩ := r21_)
      (try obtain ⟨r22_, r23_⟩ := r22_)
      (try obtain ⟨r23_, r24_⟩ := r23_)
      (try obtain ⟨r24_, r25_⟩ := r24_)
      (try obtain ⟨r25_, r26_⟩ := r25_)
      (try obtain ⟨r26_, r27_⟩ := r26_)
      (try obtain ⟨r27_, r28_⟩ := r27_)
      (try obtain ⟨r28_, r29_⟩ := r28_)
      (try obtain ⟨r29_, r30_⟩ := r29_)
      (try obtain ⟨r7_, r8_⟩ := r7_)
      (try obtain ⟨r8_, r9_⟩ := r8_)
      go_simp
      with_reducible rfl
    rotate_left
    · simp only [Act.put, List.setIfInBounds_toArray, List.set_cons_zero, List.set_cons_succ, i64_w, i32_w]
      rfl
    refine one_ (i := 2) (N := some 18) #[true, true, true, true, true, true, false, false, false, false] rfl rfl (by kernel_rfl) (by decide) (fun K hSh => ?_)
    refine goes_ Try.func27 (by kernel_rfl) rfl #[ptr pb, .int .i64 x] (by rfl) rfl rfl (by (try simp only [List.map_toArray, List.map_cons, List.map_nil]); rfl) ?_
    refine (qFree (h2.drewN 1) x).mono ?_
    rintro e W3 ⟨rfl, h3, hF⟩
    have hK3 := hF.blk (h2.drewN 1).A (show (W.drewN 1).heap[W1.heap.size]? = _ from hK) (by decide) (by decide)
    refine ⟨_, rfl, ?_⟩
    refine hSh.out _ _ ((blk_cell hK3 2).trans rfl) ?_
    clear hHeld
    intro hHeld
    refine norm_ (a' := ?_) ?_ ?_
    rotate_left
    · simp only [Act.put, List.setIfInBounds_toArray, List.set_cons_zero, List.set_cons_succ, i64_w, i32_w]
      rfl
    have HF3 := Lib.hid ((HF1.out.trans (Fr.of_below (pw_below_drewN (Below.refl _ _) 1) mb cb)).trans hF)
    clear hF hK h2
    refine one_ (i := 6) (N := some 22) #[true, true, true, true, true, true, true, false, false, false] rfl rfl (by kernel_rfl) (by decide) (fun K hSh => ?_)
    refine goes_ Try.func27 (by kernel_rfl) rfl #[ptr pb, .int .i64 vc] (by rfl) rfl rfl (by (try simp only [List.map_toArray, List.map_cons, List.map_nil]); rfl) ?_
    refine (qFree h3 vc).mono ?_
    rintro e W4 ⟨rfl, h4, hF⟩
    have hK4 := hF.blk h3.A hK3 (by decide) (by decide)
    refine ⟨_, rfl, ?_⟩
    refine hSh.out _ _ ((blk_cell hK4 2).trans rfl) ?_
    clear hHeld
    intro hHeld
    refine norm_ (a' := ?_) ?_ ?_
    rotate_left
    · simp only [Act.put, List.setIfInBounds_toArray, List.set_cons_zero, List.set_cons_succ, i64_w, i32_w]
      rfl
    have HF4 := Lib.hid (HF3.out.trans hF)
    clear hF hK3 h3
    generalize (M2.free x).2 = f1 at *
    generalize ((M2.free x).1.free vc).2 = f2 at *
    refine one_ (i := 7) (N := some 23) #[true, true, true, true, true, true, true, true, false, false] rfl rfl (by kernel_rfl) (by decide) (fun K hSh => ?_)
    refine value_ (v := .slice (some ⟨W4.heap.size, 0, none⟩) 2 2) (w1 := W4.alloc (.cells #[.int .i64 f1, .int .i64 f2] 44)) (by rfl) rfl (by go_simp <;> rfl) ?_
    have hK5 := blk_alloc hK4 (.cells #[.int .i64 f1, .int .i64 f2] 44)
    have h5 := h4.alloc (.cells #[.int .i64 f1, .int .i64 f2] 44)
    have hk5 := blk_new W4 (.cells #[.int .i64 f1, .int .i64 f2] 44)
    have HF5 := Lib.hid (HF4.out.alloc (.cells #[.int .i64 f1, .int .i64 f2] 44))
    refine hSh.out _ _ ((blk_cell hK5 2).trans rfl) ?_
    clear hHeld
    intro hHeld
    refine norm_ (a' := ?_) ?_ ?_
    rotate_left
    · simp only [Act.put, List.setIfInBounds_toArray, List.set_cons_zero, List.set_cons_succ, i64_w, i32_w]
      rfl
    refine one_ (i := 8) (N := some 24) #[true, true, true, true, true, true, true, true, true, false] rfl rfl (by kernel_rfl) (by decide) (fun K hSh => ?_)
    refine goes_ Try.func85 (by kernel_rfl) rfl #[.slice (some ⟨W4.heap.size, 0, none⟩) 2 2] (by rfl) rfl rfl (by (try simp only [List.map_toArray, List.map_cons, List.map_nil]); rfl) ?_
    refine (firstOf_calls hk5).mono ?_
    rintro e W6 ⟨rfl, rfl⟩
    refine ⟨_, rfl, ?_⟩
    refine hSh.out _ _ ((blk_cell hK5 2).trans rfl) ?_
    clear hHeld
    intro hHeld
    refine norm_ (a' := ?_) ?_ ?_
    rotate_left
    · simp only [Act.put, List.setIfInBounds_toArray, List.set_cons_zero, List.set_cons_succ, i64_w, i32_w]
      rfl
    refine pure_ (i := 9) (N := some 4) (v := ?_) (a' := ?_) #[true, true, true, true, true, true, true, true, true, true] rfl rfl (by kernel_rfl) (fun _ _ _ h => h) (Or.inl ⟨by rfl, ?_⟩) ?_ ?_
    rotate_left
    · intro w'
      go_simp
      with_reducible rfl
    rotate_left
    · simp only [Act.put, List.setIfInBounds_toArray, List.set_cons_zero, List.set_cons_succ, i64_w, i32_w]
      rfl
    refine done_ (by kernel_rfl) ?_
    clear hHeld hK4 hK5 hk5
    go_wp2_with fail
    go_ret
    exact ⟨rfl, h5, HF5.out⟩
  · have g1 : (e2 != 0) = true := by simpa using he
    rw [if_pos he] at hy
    injection hy with hy1 hy2
    subst hy1 hy2
    go_wp2_with fail
    rw [← HW.out]
    go_ret
    exact ⟨rfl, h2, HF1.out⟩
end
end Go.Proofs.Ytahnmklofgnagaa.Mem
