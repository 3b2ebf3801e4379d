/- Ports that ask memory at once: Swap. -/
import Derived.Test.YtahnmklofgnagaaPort0
namespace Go.Proofs.Ytahnmklofgnagaa.Mem
open Go.RowKit Go.Proofs.YtahnmklofgnagaaW.PrintWords Go.Proofs.YtahnmklofgnagaaW.PrintLast Go.Proofs.Ytahnmklofgnagaa.Tags
set_option linter.unusedVariables false
set_option linter.unusedSimpArgs false
section
variable {w w' : World} {pb mb cb : Nat} {m : M}
set_option maxHeartbeats 32000000 in
set_option maxRecDepth 100000 in
theorem Swap_fn (hA : At w mb cb m) (hP : PD w pb mb) {b0_ b1_ b2_ b3_ : Nat} (h o n : Int) (k0 : w.heap[b0_]? = some (.cells #[ptr pb] 36 (0, 0))) (k1 : w.heap[b1_]? = some (.cells #[.int .i64 h] 3 (0, 0))) (k2 : w.heap[b2_]? = some (.cells #[.int .i64 o] 3 (0, 0))) (k3 : w.heap[b3_]? = some (.cells #[.int .i64 n] 3 (0, 0))) :
    Calls Try.prog 126 #[.pointer (some ⟨b0_, 0, none⟩), .pointer (some ⟨b1_, 0, none⟩), .pointer (some ⟨b2_, 0, none⟩), .pointer (some ⟨b3_, 0, none⟩)] w (Ends w mb cb (ans .nilIface 0 (m.swap h o n).2.1 (m.swap h o n).2.2) (m.swap h o n).1) := by
  obtain ⟨M1, y1, y2, hy⟩ : ∃ M1 y1 y2, m.swap h o n = (M1, y1, y2) := ⟨_, _, _, rfl⟩
  have HY := Lib.hid hy
  clear hy
  rw [HY.out]
  obtain ⟨W, hW⟩ : ∃ W : World, W = w.alloc (.cells #[.nilIface, .int .i64 0, .bool false, .int .i64 0] 123) := ⟨_, rfl⟩
  have hb : Below w.heap.size w W := hW ▸ below_alloc (Below.refl _ _) _
  have hK0 : W.heap[w.heap.size]? = some (.cells #[.nilIface, .int .i64 0, .bool false, .int .i64 0] 123 (0, 0)) := hW ▸ blk_new w _
  have x0 := box1 (blk_below k0 hb)
  have x1 := box1 (blk_below k1 hb)
  have x2 := box1 (blk_below k2 hb)
  have x3 := box1 (blk_below k3 hb)
  have hA1 := hA.below hb
  have hP1 := hP.below hb
  obtain ⟨p0, p1, p2, p3, p4⟩ := hP1.cells
  have b1 : w.heap.size ≠ mb := by have := mb_lt hA; omega
  have b2 : w.heap.size ≠ cb := by have := cb_lt hA; omega
  have HW := Lib.hid hW
  have HK0 := Lib.hid hK0
  have HB := Lib.hid hb
  clear hW hK0 hb k0 k1 k2 k3 hA hP hP1
  go_enter Try.func126, Try.ntmps126
  go_wp2_with fail
  rw [← HW.out]
  refine start_ (n := 13) (S := fun w' => w' = W.drewN 1) (ds := [7]) #[false, false, false, false, false, false, false, false, false, false, false, false, false] rfl rfl rfl rfl ?_
  intro hS
  refine take_ (i := 0) (N := some 8) (v := ?_) (a' := ?_) #[true, false, false, false, false, false, false, false, false, false, false, false, false] rfl rfl (by kernel_rfl) (fun _ _ _ h => h) (Or.inl ⟨by rfl, ?_⟩) hS ?_ ?_
  rotate_left
  · rintro w' rfl
    go_simp
    with_reducible rfl
  rotate_left
  · simp only [Act.put, List.setIfInBounds_toArray, List.set_cons_zero, List.set_cons_succ, i64_w, i32_w]
    rfl
  refine take_ (i := 1) (N := some 9) (v := ?_) (a' := ?_) #[true, true, false, false, false, false, false, false, false, false, false, false, false] rfl rfl (by kernel_rfl) (fun _ _ _ h => h) (Or.inl ⟨by rfl, ?_⟩) hS ?_ ?_
  rotate_left
  · rintro w' rfl
    go_simp
    with_reducible rfl
  rotate_left
  · simp only [Act.put, List.setIfInBounds_toArray, List.set_cons_zero, List.set_cons_succ, i64_w, i32_w]
    rfl
  refine take_ (i := 2) (N := some 10) (v := ?_) (a' := ?_) #[true, true, true, false, false, false, false, false, false, false, false, false, false] rfl rfl (by kernel_rfl) (fun _ _ _ h => h) (Or.inl ⟨by rfl, ?_⟩) hS ?_ ?_
  rotate_left
  · rintro w' rfl
    go_simp
    with_reducible rfl
  rotate_left
  · simp only [Act.put, List.setIfInBounds_toArray, List.set_cons_zero, List.set_cons_succ, i64_w, i32_w]
    rfl
  refine take_ (i := 3) (N := some 11) (v := ?_) (a' := ?_) #[true, true, true, true, false, false, false, false, false, false, false, false, false] rfl rfl (by kernel_rfl) (fun _ _ _ h => h) (Or.inl ⟨by rfl, ?_⟩) hS ?_ ?_
  rotate_left
  · rintro w' rfl
    go_simp
    with_reducible rfl
  rotate_left
  · simp only [Act.put, List.setIfInBounds_toArray, List.set_cons_zero, List.set_cons_succ, i64_w, i32_w]
    rfl
  refine take_ (i := 4) (N := some 12) (v := ?_) (a' := ?_) #[true, true, true, true, true, false, false, false, false, false, false, false, false] rfl rfl (by kernel_rfl) (fun _ _ _ h => h) (Or.inl ⟨by rfl, ?_⟩) hS ?_ ?_
  rotate_left
  · rintro w' rfl
    go_simp
    with_reducible rfl
  rotate_left
  · simp only [Act.put, List.setIfInBounds_toArray, List.set_cons_zero, List.set_cons_succ, i64_w, i32_w]
    rfl
  refine take_ (i := 5) (N := some 13) (v := ?_) (a' := ?_) #[true, true, true, true, true, true, false, false, false, false, false, false, false] rfl rfl (by kernel_rfl) (fun _ _ _ h => h) (Or.inl ⟨by rfl, ?_⟩) hS ?_ ?_
  rotate_left
  · rintro w' rfl
    go_simp
    with_reducible rfl
  rotate_left
  · simp only [Act.put, List.setIfInBounds_toArray, List.set_cons_zero, List.set_cons_succ, i64_w, i32_w]
    rfl
  refine take_ (i := 6) (N := some 14) (v := ?_) (a' := ?_) #[true, true, true, true, true, true, true, false, false, false, false, false, false] rfl rfl (by kernel_rfl) (fun _ _ _ h => h) (Or.inl ⟨by rfl, ?_⟩) hS ?_ ?_
  rotate_left
  · rintro w' rfl
    go_simp
    with_reducible rfl
  rotate_left
  · simp only [Act.put, List.setIfInBounds_toArray, List.set_cons_zero, List.set_cons_succ, i64_w, i32_w]
    rfl
  refine last_ (i := 7) (N := some 15) #[true, true, true, true, true, true, true, true, false, false, false, false, false] rfl rfl (by kernel_rfl) (by decide) (fun K hK => ?_)
  refine goes_ Try.func127 (by kernel_rfl) rfl #[ptr mb, .int .i64 h, .int .i64 o, .int .i64 n] (by rfl) rfl rfl (by (try simp only [List.map_toArray, List.map_cons, List.map_nil]); rfl) ?_
  refine (Swap_calls (hA1.drewN 1) h o n).mono ?_
  rw [HY.out]
  rintro e W' ⟨rfl, hA', hF⟩
  refine ⟨_, rfl, ?_⟩
  refine hK.out _ _ ?_
  refine norm_ (a' := ?_) ?_ ?_
  rotate_left
  · simp only [Act.put, List.setIfInBounds_toArray, List.set_cons_zero, List.set_cons_succ, i64_w, i32_w]
    rfl
  refine pure_ (i := 8) (N := some 7) (v := ?_) (a' := ?_) #[true, true, true, true, true, true, true, true, true, false, false, false, false] rfl rfl (by kernel_rfl) (fun _ _ _ h => h) (Or.inl ⟨by rfl, ?_⟩) ?_ ?_
  rotate_left
  · intro w'
    go_simp
    with_reducible rfl
  rotate_left
  · simp only [Act.put, List.setIfInBounds_toArray, List.set_cons_zero, List.set_cons_succ, i64_w, i32_w]
    rfl
  refine pure_ (i := 9) (N := some 16) (v := ?_) (a' := ?_) #[true, true, true, true, true, true, true, true, true, true, false, false, false] rfl rfl (by kernel_rfl) (fun _ _ _ h => h) (Or.inl ⟨by rfl, ?_⟩) ?_ ?_
  rotate_left
  · intro w'
    go_simp
    with_reducible rfl
  rotate_left
  · simp only [Act.put, List.setIfInBounds_toArray, List.set_cons_zero, List.set_cons_succ, i64_w, i32_w]
    rfl
  refine pure_ (i := 10) (N := some 17) (v := ?_) (a' := ?_) #[true, true, true, true, true, true, true, true, true, true, true, false, false] rfl rfl (by kernel_rfl) (fun _ _ _ h => h) (Or.inl ⟨by rfl, ?_⟩) ?_ ?_
  rotate_left
  · intro w'
    go_simp
    with_reducible rfl
  rotate_left
  · simp only [Act.put, List.setIfInBounds_toArray, List.set_cons_zero, List.set_cons_succ, i64_w, i32_w]
    rfl
  refine pure_ (i := 11) (N := some 5) (v := ?_) (a' := ?_) #[true, true, true, true, true, true, true, true, true, true, true, true, false] rfl rfl (by kernel_rfl) (fun _ _ _ h => h) (Or.inl ⟨by rfl, ?_⟩) ?_ ?_
  rotate_left
  · intro w'
    go_simp
    with_reducible rfl
  rotate_left
  · simp only [Act.put, List.setIfInBounds_toArray, List.set_cons_zero, List.set_cons_succ, i64_w, i32_w]
    rfl
  refine pure_ (i := 12) (N := some 6) (v := ?_) (a' := ?_) #[true, true, true, true, true, true, true, true, true, true, true, true, true] rfl rfl (by kernel_rfl) (fun _ _ _ h => h) (Or.inl ⟨by rfl, ?_⟩) ?_ ?_
  rotate_left
  · intro w'
    go_simp
    with_reducible rfl
  rotate_left
  · simp only [Act.put, List.setIfInBounds_toArray, List.set_cons_zero, List.set_cons_succ, i64_w, i32_w]
    rfl
  refine done_ (by kernel_rfl) ?_
  all_goals
    have hK2 := (hF.block _ (blk_lt (show (W.drewN 1).heap[w.heap.size]? = _ from HK0.out)) b1 b2).trans (show (W.drewN 1).heap[w.heap.size]? = _ from HK0.out)
    have HF2 := Lib.hid ((Fr.of_below HB.out mb cb).trans ((Fr.of_below (pw_below_drewN (Below.refl _ _) 1) mb cb).trans hF))
    have HA := Lib.hid hA'
    obtain ⟨s0, s1, s2, s3⟩ := box4 hK2
    have z0 := blk_frozen hK2 0
    have z1 := blk_frozen hK2 1
    have z2 := blk_frozen hK2 2
    have z3 := blk_frozen hK2 3
    have HK2 := Lib.hid hK2
    clear hK2 hF hA' hA1 p0 p1 p2 p3 p4 x0 x1 x2 x3
    go_wp2_with fail
    have hk := blk4 HK2.out .nilIface (.int .i64 0) (.bool y1) (.int .i64 y2)
    obtain ⟨u0, u1, u2, u3⟩ := box4 hk
    have ho := only4 W' w.heap.size .nilIface (.int .i64 0) (.bool y1) (.int .i64 y2)
    have FIN := Lib.hid (show Ends w mb cb (ans .nilIface 0 y1 y2) M1 (.returned (ans .nilIface 0 y1 y2)) _ from ⟨rfl, HA.out.only ho (Ne.symm b1) (Ne.symm b2), HF2.out.only ho (Nat.le_refl _)⟩)
    clear ho hk s0 s1 s2 s3 z0 z1 z2 z3
    exact bodyPost_ret (v := ans .nilIface 0 y1 y2) (by simp [results, Try.results126, go_sem, u0, u1, u2, u3]) rfl FIN.out
set_option maxHeartbeats 1600000 in
set_option maxRecDepth 100000 in
theorem pSwap (hA : At w mb cb m) (hP : PD w pb mb) (h o n : Int) : Calls Try.prog 92 #[ptr pb, .int .i64 h, .int .i64 o, .int .i64 n] w (Ends w mb cb (.tuple #[.bool (m.swap h o n).2.1, .int .i64 (m.swap h o n).2.2]) (m.swap h o n).1) := by
  have hmf := makeFunc_run
  obtain ⟨M1, y1, y2, hy⟩ : ∃ M1 y1 y2, m.swap h o n = (M1, y1, y2) := ⟨_, _, _, rfl⟩
  obtain ⟨W, hW⟩ : ∃ W : World, W = ((((w.alloc (.cells #[ptr pb] 36)).alloc (.cells #[.int .i64 h] 3)).alloc (.cells #[.int .i64 o] 3)).alloc (.cells #[.int .i64 n] 3)) := ⟨_, rfl⟩
  have hb : Below w.heap.size w W := hW ▸ (below_alloc (below_alloc (below_alloc (below_alloc (Below.refl _ _) _) _) _) _)
  have k0 : W.heap[w.heap.size]? = some (.cells #[ptr pb] 36 (0, 0)) := by
    exact hW ▸ (blk_alloc (blk_alloc (blk_alloc (blk_new _ _) _) _) _)
  have x0 := box1 k0
  have K0 := Lib.hid k0
  clear k0
  have k1 : W.heap[w.heap.size + 1]? = some (.cells #[.int .i64 h] 3 (0, 0)) := by
    have e : w.heap.size + 1 = (w.alloc (.cells #[ptr pb] 36)).heap.size := by simp
    rw [e]
    exact hW ▸ (blk_alloc (blk_alloc (blk_new _ _) _) _)
  have x1 := box1 k1
  have K1 := Lib.hid k1
  clear k1
  have k2 : W.heap[w.heap.size + 1 + 1]? = some (.cells #[.int .i64 o] 3 (0, 0)) := by
    have e : w.heap.size + 1 + 1 = ((w.alloc (.cells #[ptr pb] 36)).alloc (.cells #[.int .i64 h] 3)).heap.size := by simp
    rw [e]
    exact hW ▸ (blk_alloc (blk_new _ _) _)
  have x2 := box1 k2
  have K2 := Lib.hid k2
  clear k2
  have k3 : W.heap[w.heap.size + 1 + 1 + 1]? = some (.cells #[.int .i64 n] 3 (0, 0)) := by
    have e : w.heap.size + 1 + 1 + 1 = (((w.alloc (.cells #[ptr pb] 36)).alloc (.cells #[.int .i64 h] 3)).alloc (.cells #[.int .i64 o] 3)).heap.size := by simp
    rw [e]
    exact hW ▸ (blk_new _ _)
  have x3 := box1 k3
  have K3 := Lib.hid k3
  clear k3
  have hA1 := hA.below hb
  have hP1 := hP.below hb
  have HW := Lib.hid hW
  have HB := Lib.hid hb
  have hd : ∀ W1, Below W.heap.size W W1 → Calls Try.prog 126 #[.pointer (some ⟨w.heap.size, 0, none⟩), .pointer (some ⟨w.heap.size + 1, 0, none⟩), .pointer (some ⟨w.heap.size + 1 + 1, 0, none⟩), .pointer (some ⟨w.heap.size + 1 + 1 + 1, 0, none⟩)] W1 (Ends W1 mb cb (ans .nilIface 0 y1 y2) M1) := by
    intro W1 h1
    have := Swap_fn (hA1.below h1) (hP1.below h1) h o n (blk_below K0.out h1) (blk_below K1.out h1) (blk_below K2.out h1) (blk_below K3.out h1)
    rw [hy] at this
    exact this
  rw [hy]
  have HY := Lib.hid hy
  have HD := Lib.hid hd
  clear hW hb hy hd
  go_enter Try.func92, Try.ntmps92
  go_wp2_with fail
  rw [← HW.out]
  refine (ask_calls hA1 hP1 (Or.inl rfl) (fun W => enters_ Try.func126 (by kernel_rfl) rfl _ W) HD.out).mono ?_
  rintro e W' ⟨rfl, hA', hF⟩
  have HF2 := Lib.hid ((Fr.of_below HB.out mb cb).trans hF)
  have HA := Lib.hid hA'
  clear hF hA' hA1 hP1 hA hP x0 x1 x2 x3
  have FIN := Lib.hid (show ∀ k, Ends w mb cb (.tuple #[.bool y1, .int .i64 y2]) M1 (.returned (.tuple #[.bool y1, .int .i64 y2])) _ from fun k => ⟨rfl, (HA.out.alloc (.cells #[.nilIface, .int .i64 0, .bool y1, .int .i64 y2] 123)).drewN k, (HF2.out.alloc _).drewN k⟩)
  go_wp2_with fail
  go_quiet (fail)
  go_wp2_with fail
  go_ret2
  exact FIN.out _
end
end Go.Proofs.Ytahnmklofgnagaa.Mem
