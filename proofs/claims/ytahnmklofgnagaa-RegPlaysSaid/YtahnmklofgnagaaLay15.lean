/- rundlelaw15.lay: memory, and a register. -/
import Derived.Test.YtahnmklofgnagaaReg3
namespace Go.Proofs.Ytahnmklofgnagaa.Mem
open Go.RowKit Go.Proofs.YtahnmklofgnagaaW.PrintWords Go.Proofs.YtahnmklofgnagaaW.PrintLast Go.Proofs.Ytahnmklofgnagaa.Tags
set_option linter.unusedVariables false
set_option linter.unusedSimpArgs false
section
variable {w0 w w' : World} {pb mb cb : Nat} {m m' : M}
theorem do4_calls {K : Nat} {c1 c2 c3 c4 : Value} {v : Value} {Q : World → Prop} (hK : ∀ args W, (callFunc K args).run Try.prog W = .ok (.enter K args) W) (hd : Calls Try.prog K #[ptr w.heap.size, c1, c2, c3, c4] (w.alloc (port0 mb)) fun e w' => e = .returned v ∧ Q w') :
    Calls Try.prog 15 #[ptr mb, .func (Fn.func K) #[] #[c1, c2, c3, c4]] w fun e w' => e = .returned v ∧ Q w' := by
  have hk := hK #[ptr w.heap.size, c1, c2, c3, c4]
  have HD := Lib.hid hd
  clear hK hd
  go_enter Try.func15, Try.ntmps15
  go_wp2_with fail
  refine HD.out.mono ?_
  rintro e W ⟨rfl, hq⟩
  have HQ := Lib.hid hq
  clear hq
  go_wp2_with fail
  go_ret
  exact ⟨rfl, HQ.out⟩
theorem do2_calls {K : Nat} {c1 c2 : Value} {v : Value} {Q : World → Prop} (hK : ∀ args W, (callFunc K args).run Try.prog W = .ok (.enter K args) W) (hd : Calls Try.prog K #[ptr w.heap.size, c1, c2] (w.alloc (port0 mb)) fun e w' => e = .returned v ∧ Q w') :
    Calls Try.prog 15 #[ptr mb, .func (Fn.func K) #[] #[c1, c2]] w fun e w' => e = .returned v ∧ Q w' := by
  have hk := hK #[ptr w.heap.size, c1, c2]
  have HD := Lib.hid hd
  clear hK hd
  go_enter Try.func15, Try.ntmps15
  go_wp2_with fail
  refine HD.out.mono ?_
  rintro e W ⟨rfl, hq⟩
  have HQ := Lib.hid hq
  clear hq
  go_wp2_with fail
  go_ret
  exact ⟨rfl, HQ.out⟩
set_option maxHeartbeats 3200000 in
set_option maxRecDepth 100000 in
theorem lay15_fn (h : St w0 w pb mb cb m) {ba bs by_ bo : Nat} {a b : Nat} (ha : 1 ≤ a) (ha' : a ≤ 64) (hb : b ≤ 64) {M1 M2 M3 : M} {y t : Int} {ts ss : List Int} (hl : m.laid 1 D.z = (M1, y, 0)) (hal : M1.alloc (number y) = (M2, t, 0)) (hr : M2.reg a b = (M3, ts, ss, 0))
    (k1 : w.heap[ba]? = some (.cells #[.int .i64 a] 3 (0, 0))) (k2 : w.heap[bs]? = some (.cells #[.int .i64 b] 3 (0, 0))) (k3 : w.heap[by_]? = some (.cells #[ptr mb, .int .i64 0, .slice none 0 0, .slice none 0 0] 86 (0, 0))) (k4 : w.heap[bo]? = some (.cells #[.bool true] 4 (0, 0)))
    (b1 : w0.heap.size ≤ by_) (b2 : w0.heap.size ≤ bo) (hl1 : ts.length ≤ 1000) (hl2 : ss.length ≤ 1000) :
    Calls Try.prog 97 #[ptr pb, .pointer (some ⟨ba, 0, none⟩), .pointer (some ⟨bs, 0, none⟩), .pointer (some ⟨by_, 0, none⟩), .pointer (some ⟨bo, 0, none⟩)] w fun e w' => e = .returned .nilIface ∧ (St w0 w' pb mb cb M3 ∧ ∃ A ca B cc, w'.heap[by_]? = some (.cells #[ptr mb, .int .i64 t, .slice A ts.length ca, .slice B ss.length cc] 86 (0, 0)) ∧ RegAt w' w.heap.size A ca B cc ts ss ∧ w'.heap[bo]? = some (.cells #[.bool true] 4 (0, 0))) := by
  have n12 : by_ ≠ bo := by rintro rfl; exact absurd (k3.symm.trans k4) (by intro e; injection e with e; injection e with _ e; exact absurd e (by decide))
  have HR := Lib.hid hr
  clear hr
  go_enter Try.func97, Try.ntmps97
  go_wp2_with fail
  refine (init_ok h hl hal).mono ?_
  clear hl hal
  rintro e W1 ⟨rfl, h1, hF⟩
  have k3' := hF.blk h.A k3 (by decide) (by decide)
  have k4' := hF.blk h.A k4 (by decide) (by decide)
  have x1 := box1 (hF.blk h.A k1 (by decide) (by decide))
  have x2 := box1 (hF.blk h.A k2 (by decide) (by decide))
  have hsz : w.heap.size ≤ W1.heap.size := hF.size
  clear hF k1 k2 k3 k4 h
  go_wp2_with fail
  refine (regInit_calls h1 t a b ha ha' hb).mono ?_
  rw [HR.out]
  rintro e W2 ⟨A, ca, B, cc, rfl, hO1, hO2, h2, hF⟩
  have hRA : RegAt W2 w.heap.size A ca B cc ts ss := ⟨hO1.lower hsz, hO2.lower hsz, hl1, hl2⟩
  have k3'' := hF.blk h1.A k3' (by decide) (by decide)
  have k4'' := hF.blk h1.A k4' (by decide) (by decide)
  clear hO1 hO2 hF k3' k4' h1 x1 x2
  obtain ⟨W3, hW3⟩ : ∃ W3 : World, W3 = W2.alloc (.cells #[.int .i64 t, .slice A ts.length ca, .slice B ss.length cc] 80) := ⟨_, rfl⟩
  have hbel : Below W2.heap.size W2 W3 := hW3 ▸ below_alloc (Below.refl _ _) _
  have hX : W3.heap[W2.heap.size]? = some (.cells #[.int .i64 t, .slice A ts.length ca, .slice B ss.length cc] 80 (0, 0)) := hW3 ▸ blk_new W2 _
  have h3 := h2.below hbel
  have hR3 := hRA.below hbel
  have kY := blk_below k3'' hbel
  have kO := blk_below k4'' hbel
  have HW3 := Lib.hid hW3
  clear hW3 hbel h2 hRA k3'' k4''
  go_upto_region 3 with fail
  rw [← HW3.out]
  clear HW3
  obtain ⟨r0, r1, r2⟩ := box3 hX
  obtain ⟨y0, y1, y2, y3⟩ := box4 kY
  have o0 := box1 kO
  have z1 := blk_frozen kY 1
  have z2 := blk_frozen kY 2
  have z3 := blk_frozen kY 3
  have z4 := blk_frozen kO 0
  have ho1 := ((Only.set W3 ⟨by_, 1, none⟩ (.int .i64 t)).trans (Only.set _ ⟨by_, 2, none⟩ (.slice A ts.length ca))).trans (Only.set _ ⟨by_, 3, none⟩ (.slice B ss.length cc))
  have c1 : (((W3.setCell ⟨by_, 1, none⟩ (.int .i64 t)).setCell ⟨by_, 2, none⟩ (.slice A ts.length ca)).setCell ⟨by_, 3, none⟩ (.slice B ss.length cc)).heap[by_]? = some (.cells #[ptr mb, .int .i64 t, .slice A ts.length ca, .slice B ss.length cc] 86 (0, 0)) := blk_put (blk_put (blk_put kY 1 (.int .i64 t) rfl) 2 (.slice A ts.length ca) rfl) 3 (.slice B ss.length cc) rfl
  have c2 := (ho1.block bo (Ne.symm n12)).trans kO
  have s1 := h3.only ho1 kY (by decide) (by decide) (by decide) b1
  have R1 : RegAt _ w.heap.size A ca B cc ts ss := ⟨hR3.a.only1 ho1 kY (by decide), hR3.b.only1 ho1 kY (by decide), hl1, hl2⟩
  have ho2 := Only.set (((W3.setCell ⟨by_, 1, none⟩ (.int .i64 t)).setCell ⟨by_, 2, none⟩ (.slice A ts.length ca)).setCell ⟨by_, 3, none⟩ (.slice B ss.length cc)) ⟨bo, 0, none⟩ (.bool true)
  have s2 := s1.only ho2 c2 (by decide) (by decide) (by decide) b2
  have R2 : RegAt _ w.heap.size A ca B cc ts ss := ⟨R1.a.only1 ho2 c2 (by decide), R1.b.only1 ho2 c2 (by decide), hl1, hl2⟩
  have c3 := (ho2.block by_ n12).trans c1
  have c4 : ((((W3.setCell ⟨by_, 1, none⟩ (.int .i64 t)).setCell ⟨by_, 2, none⟩ (.slice A ts.length ca)).setCell ⟨by_, 3, none⟩ (.slice B ss.length cc)).setCell ⟨bo, 0, none⟩ (.bool true)).heap[bo]? = some (.cells #[.bool true] 4 (0, 0)) := blk_put c2 0 (.bool true) rfl
  have FIN := Lib.hid (And.intro s2 (And.intro c3 (And.intro R2 c4)))
  clear ho1 c1 c2 s1 R1 ho2 s2 R2 c3 c4 hX kY kO h3 hR3
  go_wp2_with fail
  go_ret
  exact ⟨rfl, FIN.out.1, A, ca, B, cc, FIN.out.2.1, FIN.out.2.2.1, FIN.out.2.2.2⟩
def LaidIn15 (M3 : M) (t : Int) (ts ss : List Int) (w : World) (e : Ending) (w' : World) : Prop := ∃ mb cb A ca B cc, e = .returned (.tuple #[.agg #[ptr mb, .int .i64 t, .slice A ts.length ca, .slice B ss.length cc], .bool true]) ∧ At w' mb cb M3 ∧ RegAt w' w.heap.size A ca B cc ts ss ∧ Below w.heap.size w w' ∧ w.heap.size ≤ mb ∧ w.heap.size ≤ cb
set_option maxHeartbeats 3200000 in
set_option maxRecDepth 100000 in
theorem lay15_calls {a b : Nat} (ha : 1 ≤ a) (ha' : a ≤ 64) (hb : b ≤ 64) {M1 M2 M3 : M} {y t : Int} {ts ss : List Int} (hl : (M.new 200).laid 1 D.z = (M1, y, 0)) (hal : M1.alloc (number y) = (M2, t, 0)) (hr : M2.reg a b = (M3, ts, ss, 0)) (hl1 : ts.length ≤ 1000) (hl2 : ss.length ≤ 1000) (w : World) :
    Calls Try.prog 50 #[.int .i64 a, .int .i64 b] w (LaidIn15 M3 t ts ss w) := by
  obtain ⟨W1, hW1⟩ : ∃ W1 : World, W1 = ((w.alloc (.cells #[.int .i64 a] 3)).alloc (.cells #[.int .i64 b] 3)).alloc (.cells #[.pointer none, .int .i64 0, .slice none 0 0, .slice none 0 0] 86) := ⟨_, rfl⟩
  have hB1 : Below w.heap.size w W1 := hW1 ▸ below_alloc (below_alloc (below_alloc (Below.refl _ _) _) _) _
  have kA : W1.heap[w.heap.size]? = some (.cells #[.int .i64 a] 3 (0, 0)) := hW1 ▸ blk_alloc (blk_alloc (blk_new _ _) _) _
  have kS : W1.heap[w.heap.size + 1]? = some (.cells #[.int .i64 b] 3 (0, 0)) := by
    have e : w.heap.size + 1 = (w.alloc (.cells #[.int .i64 a] 3)).heap.size := by simp
    rw [e]
    exact hW1 ▸ blk_alloc (blk_new _ _) _
  have kR : W1.heap[w.heap.size + 1 + 1]? = some (.cells #[.pointer none, .int .i64 0, .slice none 0 0, .slice none 0 0] 86 (0, 0)) := by
    have e : w.heap.size + 1 + 1 = ((w.alloc (.cells #[.int .i64 a] 3)).alloc (.cells #[.int .i64 b] 3)).heap.size := by simp
    rw [e]
    exact hW1 ▸ blk_new _ _
  have hz1 : W1.heap.size = w.heap.size + 3 := by rw [hW1]; simp
  have HL := Lib.hid hl
  have HAL := Lib.hid hal
  have HR := Lib.hid hr
  have HW1 := Lib.hid hW1
  clear hl hal hr hW1
  go_enter Try.func50, Try.ntmps50
  go_wp2_with fail
  rw [← HW1.out]
  refine (New_calls 200 W1 (by decide) (by decide)).mono ?_
  rintro e W2 ⟨rfl, hA2, hB2⟩
  obtain ⟨mb, hmb⟩ : ∃ b, b = W1.heap.size + 1 := ⟨_, rfl⟩
  obtain ⟨cb, hcb⟩ : ∃ b, b = W1.heap.size := ⟨_, rfl⟩
  rw [← hmb, ← hcb] at hA2
  rw [← hmb]
  have hmb' : w.heap.size ≤ mb := by omega
  have hcb' : w.heap.size ≤ cb := by omega
  have hmb2 : w.heap.size + 1 + 1 < mb := by omega
  have hcb2 : w.heap.size + 1 + 1 < cb := by omega
  have kA2 := blk_below kA hB2
  have kS2 := blk_below kS hB2
  have kR2 := blk_below kR hB2
  have hB2' := below_then hB1 hB1.size hB2
  have hs2 : w.heap.size ≤ W2.heap.size := hB2'.size
  have hs2' : w.heap.size + 3 ≤ W2.heap.size := by have := hB2.size; omega
  clear kA kS kR hB1 hB2 hmb hcb HW1 hz1
  obtain ⟨W3, hW3⟩ : ∃ W3 : World, W3 = (W2.alloc (.cells #[ptr mb, .int .i64 0, .slice none 0 0, .slice none 0 0] 86)).alloc (.cells #[.bool true] 4) := ⟨_, rfl⟩
  have hB3 : Below W2.heap.size W2 W3 := hW3 ▸ below_alloc (below_alloc (Below.refl _ _) _) _
  have kY : W3.heap[W2.heap.size]? = some (.cells #[ptr mb, .int .i64 0, .slice none 0 0, .slice none 0 0] 86 (0, 0)) := hW3 ▸ blk_alloc (blk_new _ _) _
  have kO : W3.heap[W2.heap.size + 1]? = some (.cells #[.bool true] 4 (0, 0)) := by
    have e : W2.heap.size + 1 = (W2.alloc (.cells #[ptr mb, .int .i64 0, .slice none 0 0, .slice none 0 0] 86)).heap.size := by simp
    rw [e]
    exact hW3 ▸ blk_new _ _
  have hA3 := hA2.below hB3
  have kA3 := blk_below kA2 hB3
  have kS3 := blk_below kS2 hB3
  have HW3 := Lib.hid hW3
  have HR2 := Lib.hid kR2
  clear hW3 kA2 kS2 kR2 hA2
  have hA4 := hA3.alloc (port0 mb)
  have hP4 : PD (W3.alloc (port0 mb)) W3.heap.size mb := blk_new _ _
  have hS : St W2 (W3.alloc (port0 mb)) W3.heap.size mb cb (M.new 200) := ⟨hA4, hP4, Fr.of_below (hB3.alloc hB3.size (port0 mb)) mb cb⟩
  have HS3 := Lib.hid hB3.size
  have hCL := Lib.hid (do4_calls (mb := mb) (fun args W => enters_ Try.func97 (by kernel_rfl) rfl args W) (lay15_fn hS ha ha' hb HL.out HAL.out HR.out (blk_alloc kA3 (port0 mb)) (blk_alloc kS3 (port0 mb)) (blk_alloc kY (port0 mb)) (blk_alloc kO (port0 mb)) (Nat.le_refl _) (Nat.le_succ _) hl1 hl2))
  clear kY kO kA3 kS3 hA3 hA4 hP4 hS hB3
  have hmf := makeFunc_run
  go_upto_region 6 with fail
  rw [← HW3.out]
  clear HW3
  go_wp2_with fail
  refine hCL.out.mono ?_
  rintro e W4 ⟨rfl, hS4, A, ca, B, cc, kY, hRA, kO⟩
  have kR5 := (hS4.F.block (w.heap.size + 1 + 1) (by omega) (by omega) (by omega)).trans HR2.out
  obtain ⟨y0, y1, y2, y3⟩ := box4 kY
  have o0 := box1 kO
  obtain ⟨q0, q1, q2, q3⟩ := box4 kR5
  have z0 := blk_frozen kR5 0
  have z1 := blk_frozen kR5 1
  have z2 := blk_frozen kR5 2
  have z3 := blk_frozen kR5 3
  have hB4 : Below w.heap.size w W4 := ⟨hS4.F.os.trans hB2'.os, hS4.F.tape.trans hB2'.tape, hS4.F.output.trans hB2'.output, Nat.le_trans hB2'.size hS4.F.size, fun k hk => (hS4.F.block k (by omega) (by omega) (by omega)).trans (hB2'.block k hk)⟩
  have hO4 : RegAt W4 w.heap.size A ca B cc ts ss := ⟨hRA.a.lower (by have := HS3.out; simp; omega), hRA.b.lower (by have := HS3.out; simp; omega), hl1, hl2⟩
  have hA5 := hS4.A
  clear hRA hS4 hCL
  go_upto_region 7 with fail
  refine start_ (n := 4) (S := fun w' => w'.cell? ⟨W2.heap.size, 0, none⟩ = some (ptr mb) ∧ w'.cell? ⟨W2.heap.size, 1, none⟩ = some (.int .i64 t) ∧ w'.cell? ⟨W2.heap.size, 2, none⟩ = some (.slice A ts.length ca) ∧ w'.cell? ⟨W2.heap.size, 3, none⟩ = some (.slice B ss.length cc) ∧ w'.cell? ⟨W2.heap.size + 1, 0, none⟩ = some (.bool true)) (ds := []) #[false, false, false, false] rfl rfl rfl (⟨y0, y1, y2, y3, o0⟩) ?_
  intro hHeld
  refine take_ (i := 0) (N := some 26) (v := ?_) (a' := ?_) #[true, false, false, false] rfl rfl (by kernel_rfl) (fun _ _ _ h => h) (Or.inl ⟨by rfl, ?_⟩) hHeld ?_ ?_
  rotate_left
  · rintro w' hHeld'
    have hHeld'' := hHeld'
    (try obtain ⟨r0_, r1_⟩ := hHeld')
    (try obtain ⟨r1_, r2_⟩ := r1_)
    (try obtain ⟨r2_, r3_⟩ := r2_)
    (try obtain ⟨r3_, r4_⟩ := r3_)
    (try obtain ⟨r4_, r5_⟩ := r4_)
    (try obtain ⟨r5_, r6_⟩ := r5_)
    (try obtain ⟨r6_, r7_⟩ := r6_)
    (try obtain ⟨r7_, r8_⟩ := r7_)
    (try obtain ⟨r8_, r9_⟩ := r8_)
    (try obtain ⟨r9_, r10_⟩ := r9_)
    (try obtain ⟨r10_, r11_⟩ := r10_)
    (try obtain ⟨r11_, r12_⟩ := r11_)
    (try obtain ⟨r12_, r13_⟩ := r12_)
    (try obtain ⟨r13_, r14_⟩ := r13_)
    (try obtain ⟨r14_, r15_⟩ := r14_)
    (try obtain ⟨r15_, r16_⟩ := r15_)
    (try obtain ⟨r16_, r17_⟩ := r16_)
    (try obtain ⟨r17_, r18_⟩ := r17_)
    (try obtain ⟨r18_, r19_⟩ := r18_)
    (try obtain ⟨r19_, r20_⟩ := r19_)
    (try obtain ⟨r20_, r21_⟩ := r20_)
    (try obtain ⟨r21_, r22_⟩ := r21_)
    (try obtain ⟨r22_, r23_⟩ := r22_)
    (try obtain ⟨r23_, r24_⟩ := r23_)
    (try obtain ⟨r24_, r25_⟩ := r24_)
    (try obtain ⟨r25_, r26_⟩ := r25_)
    (try obtain ⟨r26_, r27_⟩ := r26_)
    (try obtain ⟨r27_, r28_⟩ := r27_)
    (try obtain ⟨r28_, r29_⟩ := r28_)
    (try obtain ⟨r29_, r30_⟩ := r29_)
    (try obtain ⟨r7_, r8_⟩ := r7_)
    (try obtain ⟨r8_, r9_⟩ := r8_)
    go_simp
    with_reducible rfl
  rotate_left
  · simp only [Act.put, List.setIfInBounds_toArray, List.set_cons_zero, List.set_cons_succ, i64_w, i32_w]
    rfl
  refine take_ (i := 1) (N := some 27) (v := ?_) (a' := ?_) #[true, true, false, false] rfl rfl (by kernel_rfl) (fun _ _ _ h => h) (Or.inl ⟨by rfl, ?_⟩) hHeld ?_ ?_
  rotate_left
  · rintro w' hHeld'
    have hHeld'' := hHeld'
    (try obtain ⟨r0_, r1_⟩ := hHeld')
    (try obtain ⟨r1_, r2_⟩ := r1_)
    (try obtain ⟨r2_, r3_⟩ := r2_)
    (try obtain ⟨r3_, r4_⟩ := r3_)
    (try obtain ⟨r4_, r5_⟩ := r4_)
    (try obtain ⟨r5_, r6_⟩ := r5_)
    (try obtain ⟨r6_, r7_⟩ := r6_)
    (try obtain ⟨r7_, r8_⟩ := r7_)
    (try obtain ⟨r8_, r9_⟩ := r8_)
    (try obtain ⟨r9_, r10_⟩ := r9_)
    (try obtain ⟨r10_, r11_⟩ := r10_)
    (try obtain ⟨r11_, r12_⟩ := r11_)
    (try obtain ⟨r12_, r13_⟩ := r12_)
    (try obtain ⟨r13_, r14_⟩ := r13_)
    (try obtain ⟨r14_, r15_⟩ := r14_)
    (try obtain ⟨r15_, r16_⟩ := r15_)
    (try obtain ⟨r16_, r17_⟩ := r16_)
    (try obtain ⟨r17_, r18_⟩ := r17_)
    (try obtain ⟨r18_, r19_⟩ := r18_)
    (try obtain ⟨r19_, r20_⟩ := r19_)
    (try obtain ⟨r20_, r21_⟩ := r20_)
    (try obtain ⟨r21_, r22_⟩ := r21_)
    (try obtain ⟨r22_, r23_⟩ := r22_)
    (try obtain ⟨r23_, r24_⟩ := r23_)
    (try obtain ⟨r24_, r25_⟩ := r24_)
    (try obtain ⟨r25_, r26_⟩ := r25_)
    (try obtain ⟨r26_, r27_⟩ := r26_)
    (try obtain ⟨r27_, r28_⟩ := r27_)
    (try obtain ⟨r28_, r29_⟩ := r28_)
    (try obtain ⟨r29_, r30_⟩ := r29_)
    (try obtain ⟨r7_, r8_⟩ := r7_)
    (try obtain ⟨r8_, r9_⟩ := r8_)
    go_simp
    with_reducible rfl
  rotate_left
  · simp only [Act.put, List.setIfInBounds_toArray, List.set_cons_zero, List.set_cons_succ, i64_w, i32_w]
    rfl
  have ho := only4 W4 (w.heap.size + 1 + 1) (ptr mb) (.int .i64 t) (.slice A ts.length ca) (.slice B ss.length cc)
  have hk := blk4 kR5 (ptr mb) (.int .i64 t) (.slice A ts.length ca) (.slice B ss.length cc)
  have hY' := (ho.block W2.heap.size (by omega)).trans kY
  have hO' := (ho.block (W2.heap.size + 1) (by omega)).trans kO
  have hX := And.intro (box4 hY').1 (And.intro (box4 hY').2.1 (And.intro (box4 hY').2.2.1 (And.intro (box4 hY').2.2.2 (box1 hO'))))
  have HX := Lib.hid hX
  have FIN := Lib.hid (show LaidIn15 M3 t ts ss w (.returned (.tuple #[.agg #[ptr mb, .int .i64 t, .slice A ts.length ca, .slice B ss.length cc], .bool true])) _ from ⟨mb, cb, A, ca, B, cc, rfl, (hA5.only ho (by omega) (by omega)).drewN 1, ⟨OwnI.move (hO4.a.only1 ho kR5 (by decide)) (fun _ _ => rfl), OwnI.move (hO4.b.only1 ho kR5 (by decide)) (fun _ _ => rfl), hl1, hl2⟩, pw_below_drewN ⟨ho.os.trans hB4.os, ho.tape.trans hB4.tape, ho.output.trans hB4.output, by rw [ho.size]; exact hB4.size, fun k hk => (ho.block k (by omega)).trans (hB4.block k hk)⟩ 1, hmb', hcb'⟩)
  obtain ⟨u0, u1, u2, u3⟩ := box4 hk
  clear hX hY' hO' hk ho
  refine one_ (i := 2) (N := none) #[true, true, true, false] rfl rfl (by kernel_rfl) (by decide) (fun K hSh => ?_)
  refine skip_ (w1 := (set4 W4 (w.heap.size + 1 + 1) (ptr mb) (.int .i64 t) (.slice A ts.length ca) (.slice B ss.length cc)).drew) (by rfl) rfl (by go_simp <;> rfl) ?_
  refine hSh.out _ _ (HX.out) ?_
  clear hHeld
  intro hHeld
  refine pure_ (i := 3) (N := some 5) (v := ?_) (a' := ?_) #[true, true, true, true] rfl rfl (by kernel_rfl) (fun _ _ _ h => h) (Or.inl ⟨by rfl, ?_⟩) ?_ ?_
  rotate_left
  · intro w'
    go_simp
    with_reducible rfl
  rotate_left
  · simp only [Act.put, List.setIfInBounds_toArray, List.set_cons_zero, List.set_cons_succ, i64_w, i32_w]
    rfl
  refine done_ (by kernel_rfl) ?_
  clear hHeld y0 y1 y2 y3 o0 q0 q1 q2 q3 z0 z1 z2 z3
  go_wp2_with fail
  exact bodyPost_ret (v := .tuple #[.agg #[ptr mb, .int .i64 t, .slice A ts.length ca, .slice B ss.length cc], .bool true]) (by simp [results, Try.results50, go_sem, u0, u1, u2, u3]) rfl FIN.out
end
end Go.Proofs.Ytahnmklofgnagaa.Mem
