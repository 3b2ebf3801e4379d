/- Ports that ask memory at once: Alloc, AllocWord, Load, Word. -/
import Derived.Test.YtahnmklofgnagaaPort0
namespace Go.Proofs.Ytahnmklofgnagaa.Mem
open Go.RowKit Go.Proofs.YtahnmklofgnagaaW.PrintWords Go.Proofs.YtahnmklofgnagaaW.PrintLast Go.Proofs.Ytahnmklofgnagaa.Tags
set_option linter.unusedVariables false
set_option linter.unusedSimpArgs false
section
variable {w w' : World} {pb mb cb : Nat} {m : M}
set_option maxHeartbeats 3200000 in
set_option maxRecDepth 100000 in
theorem Alloc_fn (hA : At w mb cb m) (hP : PD w pb mb) {b0_ b1_ : Nat} (T : TypeId) (u : Value) (hv : OkV (.iface T u)) (k0 : w.heap[b0_]? = some (.cells #[ptr pb] 36 (0, 0))) (k1 : w.heap[b1_]? = some (.cells #[.iface T u] 20 (0, 0))) :
    Calls Try.prog 81 #[.pointer (some ⟨b0_, 0, none⟩), .pointer (some ⟨b1_, 0, none⟩)] w (Ends w mb cb (ans .nilIface (m.alloc (.iface T u)).2.1 false (m.alloc (.iface T u)).2.2) (m.alloc (.iface T u)).1) := by
  obtain ⟨M1, y1, y2, hy⟩ : ∃ M1 y1 y2, m.alloc (.iface T u) = (M1, y1, y2) := ⟨_, _, _, rfl⟩
  have HY := Lib.hid hy
  clear hy
  rw [HY.out]
  obtain ⟨W, hW⟩ : ∃ W : World, W = w.alloc (.cells #[.nilIface, .int .i64 0, .bool false, .int .i64 0] 123) := ⟨_, rfl⟩
  have hb : Below w.heap.size w W := hW ▸ below_alloc (Below.refl _ _) _
  have hK0 : W.heap[w.heap.size]? = some (.cells #[.nilIface, .int .i64 0, .bool false, .int .i64 0] 123 (0, 0)) := hW ▸ blk_new w _
  have x0 := box1 (blk_below k0 hb)
  have x1 := box1 (blk_below k1 hb)
  have hA1 := hA.below hb
  have hP1 := hP.below hb
  obtain ⟨p0, p1, p2, p3, p4⟩ := hP1.cells
  have b1 : w.heap.size ≠ mb := by have := mb_lt hA; omega
  have b2 : w.heap.size ≠ cb := by have := cb_lt hA; omega
  have HW := Lib.hid hW
  have HK0 := Lib.hid hK0
  have HB := Lib.hid hb
  clear hW hK0 hb k0 k1 hA hP hP1
  go_enter Try.func81, Try.ntmps81
  go_wp2_with fail
  rw [← HW.out]
  refine start_ (n := 11) (S := fun w' => w' = W.drewN 1) (ds := [5]) #[false, false, false, false, false, false, false, false, false, false, false] rfl rfl rfl rfl ?_
  intro hS
  refine take_ (i := 0) (N := some 6) (v := ?_) (a' := ?_) #[true, false, false, false, false, false, false, false, false, false, false] rfl rfl (by kernel_rfl) (fun _ _ _ h => h) (Or.inl ⟨by rfl, ?_⟩) hS ?_ ?_
  rotate_left
  · rintro w' rfl
    go_simp
    with_reducible rfl
  rotate_left
  · simp only [Act.put, List.setIfInBounds_toArray, List.set_cons_zero, List.set_cons_succ, i64_w, i32_w]
    rfl
  refine take_ (i := 1) (N := some 7) (v := ?_) (a' := ?_) #[true, true, false, false, false, false, false, false, false, false, false] rfl rfl (by kernel_rfl) (fun _ _ _ h => h) (Or.inl ⟨by rfl, ?_⟩) hS ?_ ?_
  rotate_left
  · rintro w' rfl
    go_simp
    with_reducible rfl
  rotate_left
  · simp only [Act.put, List.setIfInBounds_toArray, List.set_cons_zero, List.set_cons_succ, i64_w, i32_w]
    rfl
  refine take_ (i := 2) (N := some 8) (v := ?_) (a' := ?_) #[true, true, true, false, false, false, false, false, false, false, false] rfl rfl (by kernel_rfl) (fun _ _ _ h => h) (Or.inl ⟨by rfl, ?_⟩) hS ?_ ?_
  rotate_left
  · rintro w' rfl
    go_simp
    with_reducible rfl
  rotate_left
  · simp only [Act.put, List.setIfInBounds_toArray, List.set_cons_zero, List.set_cons_succ, i64_w, i32_w]
    rfl
  refine take_ (i := 3) (N := some 9) (v := ?_) (a' := ?_) #[true, true, true, true, false, false, false, false, false, false, false] rfl rfl (by kernel_rfl) (fun _ _ _ h => h) (Or.inl ⟨by rfl, ?_⟩) hS ?_ ?_
  rotate_left
  · rintro w' rfl
    go_simp
    with_reducible rfl
  rotate_left
  · simp only [Act.put, List.setIfInBounds_toArray, List.set_cons_zero, List.set_cons_succ, i64_w, i32_w]
    rfl
  refine take_ (i := 4) (N := some 10) (v := ?_) (a' := ?_) #[true, true, true, true, true, false, false, false, false, false, false] rfl rfl (by kernel_rfl) (fun _ _ _ h => h) (Or.inl ⟨by rfl, ?_⟩) hS ?_ ?_
  rotate_left
  · rintro w' rfl
    go_simp
    with_reducible rfl
  rotate_left
  · simp only [Act.put, List.setIfInBounds_toArray, List.set_cons_zero, List.set_cons_succ, i64_w, i32_w]
    rfl
  refine last_ (i := 5) (N := some 11) #[true, true, true, true, true, true, false, false, false, false, false] rfl rfl (by kernel_rfl) (by decide) (fun K hK => ?_)
  refine goes_ Try.func82 (by kernel_rfl) rfl #[ptr mb, .iface T u] (by rfl) rfl rfl (by (try simp only [List.map_toArray, List.map_cons, List.map_nil]); rfl) ?_
  refine (Alloc_calls (hA1.drewN 1) T u hv).mono ?_
  rw [HY.out]
  rintro e W' ⟨rfl, hA', hF⟩
  refine ⟨_, rfl, ?_⟩
  refine hK.out _ _ ?_
  refine norm_ (a' := ?_) ?_ ?_
  rotate_left
  · simp only [Act.put, List.setIfInBounds_toArray, List.set_cons_zero, List.set_cons_succ, i64_w, i32_w]
    rfl
  refine pure_ (i := 6) (N := some 5) (v := ?_) (a' := ?_) #[true, true, true, true, true, true, true, false, false, false, false] rfl rfl (by kernel_rfl) (fun _ _ _ h => h) (Or.inl ⟨by rfl, ?_⟩) ?_ ?_
  rotate_left
  · intro w'
    go_simp
    with_reducible rfl
  rotate_left
  · simp only [Act.put, List.setIfInBounds_toArray, List.set_cons_zero, List.set_cons_succ, i64_w, i32_w]
    rfl
  refine pure_ (i := 7) (N := some 12) (v := ?_) (a' := ?_) #[true, true, true, true, true, true, true, true, false, false, false] rfl rfl (by kernel_rfl) (fun _ _ _ h => h) (Or.inl ⟨by rfl, ?_⟩) ?_ ?_
  rotate_left
  · intro w'
    go_simp
    with_reducible rfl
  rotate_left
  · simp only [Act.put, List.setIfInBounds_toArray, List.set_cons_zero, List.set_cons_succ, i64_w, i32_w]
    rfl
  refine pure_ (i := 8) (N := some 13) (v := ?_) (a' := ?_) #[true, true, true, true, true, true, true, true, true, false, false] rfl rfl (by kernel_rfl) (fun _ _ _ h => h) (Or.inl ⟨by rfl, ?_⟩) ?_ ?_
  rotate_left
  · intro w'
    go_simp
    with_reducible rfl
  rotate_left
  · simp only [Act.put, List.setIfInBounds_toArray, List.set_cons_zero, List.set_cons_succ, i64_w, i32_w]
    rfl
  refine pure_ (i := 9) (N := some 3) (v := ?_) (a' := ?_) #[true, true, true, true, true, true, true, true, true, true, false] rfl rfl (by kernel_rfl) (fun _ _ _ h => h) (Or.inl ⟨by rfl, ?_⟩) ?_ ?_
  rotate_left
  · intro w'
    go_simp
    with_reducible rfl
  rotate_left
  · simp only [Act.put, List.setIfInBounds_toArray, List.set_cons_zero, List.set_cons_succ, i64_w, i32_w]
    rfl
  refine pure_ (i := 10) (N := some 4) (v := ?_) (a' := ?_) #[true, true, true, true, true, true, true, true, true, true, true] rfl rfl (by kernel_rfl) (fun _ _ _ h => h) (Or.inl ⟨by rfl, ?_⟩) ?_ ?_
  rotate_left
  · intro w'
    go_simp
    with_reducible rfl
  rotate_left
  · simp only [Act.put, List.setIfInBounds_toArray, List.set_cons_zero, List.set_cons_succ, i64_w, i32_w]
    rfl
  refine done_ (by kernel_rfl) ?_
  all_goals
    have hK2 := (hF.block _ (blk_lt (show (W.drewN 1).heap[w.heap.size]? = _ from HK0.out)) b1 b2).trans (show (W.drewN 1).heap[w.heap.size]? = _ from HK0.out)
    have HF2 := Lib.hid ((Fr.of_below HB.out mb cb).trans ((Fr.of_below (pw_below_drewN (Below.refl _ _) 1) mb cb).trans hF))
    have HA := Lib.hid hA'
    obtain ⟨s0, s1, s2, s3⟩ := box4 hK2
    have z0 := blk_frozen hK2 0
    have z1 := blk_frozen hK2 1
    have z2 := blk_frozen hK2 2
    have z3 := blk_frozen hK2 3
    have HK2 := Lib.hid hK2
    clear hK2 hF hA' hA1 p0 p1 p2 p3 p4 x0 x1
    go_wp2_with fail
    have hk := blk4 HK2.out .nilIface (.int .i64 y1) (.bool false) (.int .i64 y2)
    obtain ⟨u0, u1, u2, u3⟩ := box4 hk
    have ho := only4 W' w.heap.size .nilIface (.int .i64 y1) (.bool false) (.int .i64 y2)
    have FIN := Lib.hid (show Ends w mb cb (ans .nilIface y1 false y2) M1 (.returned (ans .nilIface y1 false y2)) _ from ⟨rfl, HA.out.only ho (Ne.symm b1) (Ne.symm b2), HF2.out.only ho (Nat.le_refl _)⟩)
    clear ho hk s0 s1 s2 s3 z0 z1 z2 z3
    exact bodyPost_ret (v := ans .nilIface y1 false y2) (by simp [results, Try.results81, go_sem, u0, u1, u2, u3]) rfl FIN.out
set_option maxHeartbeats 1600000 in
set_option maxRecDepth 100000 in
theorem pAlloc (hA : At w mb cb m) (hP : PD w pb mb) (T : TypeId) (u : Value) (hv : OkV (.iface T u)) : Calls Try.prog 25 #[ptr pb, .iface T u] w (Ends w mb cb (.tuple #[.int .i64 (m.alloc (.iface T u)).2.1, .int .i64 (m.alloc (.iface T u)).2.2]) (m.alloc (.iface T u)).1) := by
  have hmf := makeFunc_run
  obtain ⟨M1, y1, y2, hy⟩ : ∃ M1 y1 y2, m.alloc (.iface T u) = (M1, y1, y2) := ⟨_, _, _, rfl⟩
  obtain ⟨W, hW⟩ : ∃ W : World, W = ((w.alloc (.cells #[ptr pb] 36)).alloc (.cells #[.iface T u] 20)) := ⟨_, rfl⟩
  have hb : Below w.heap.size w W := hW ▸ (below_alloc (below_alloc (Below.refl _ _) _) _)
  have k0 : W.heap[w.heap.size]? = some (.cells #[ptr pb] 36 (0, 0)) := by
    exact hW ▸ (blk_alloc (blk_new _ _) _)
  have x0 := box1 k0
  have K0 := Lib.hid k0
  clear k0
  have k1 : W.heap[w.heap.size + 1]? = some (.cells #[.iface T u] 20 (0, 0)) := by
    have e : w.heap.size + 1 = (w.alloc (.cells #[ptr pb] 36)).heap.size := by simp
    rw [e]
    exact hW ▸ (blk_new _ _)
  have x1 := box1 k1
  have K1 := Lib.hid k1
  clear k1
  have hA1 := hA.below hb
  have hP1 := hP.below hb
  have HW := Lib.hid hW
  have HB := Lib.hid hb
  have hd : ∀ W1, Below W.heap.size W W1 → Calls Try.prog 81 #[.pointer (some ⟨w.heap.size, 0, none⟩), .pointer (some ⟨w.heap.size + 1, 0, none⟩)] W1 (Ends W1 mb cb (ans .nilIface y1 false y2) M1) := by
    intro W1 h1
    have := Alloc_fn (hA1.below h1) (hP1.below h1) T u hv (blk_below K0.out h1) (blk_below K1.out h1)
    rw [hy] at this
    exact this
  rw [hy]
  have HY := Lib.hid hy
  have HD := Lib.hid hd
  clear hW hb hy hd
  go_enter Try.func25, Try.ntmps25
  go_wp2_with fail
  rw [← HW.out]
  refine (ask_calls hA1 hP1 (Or.inl rfl) (fun W => enters_ Try.func81 (by kernel_rfl) rfl _ W) HD.out).mono ?_
  rintro e W' ⟨rfl, hA', hF⟩
  have HF2 := Lib.hid ((Fr.of_below HB.out mb cb).trans hF)
  have HA := Lib.hid hA'
  clear hF hA' hA1 hP1 hA hP x0 x1
  have FIN := Lib.hid (show ∀ k, Ends w mb cb (.tuple #[.int .i64 y1, .int .i64 y2]) M1 (.returned (.tuple #[.int .i64 y1, .int .i64 y2])) _ from fun k => ⟨rfl, (HA.out.alloc (.cells #[.nilIface, .int .i64 y1, .bool false, .int .i64 y2] 123)).drewN k, (HF2.out.alloc _).drewN k⟩)
  go_wp2_with fail
  go_quiet (fail)
  go_wp2_with fail
  go_ret2
  exact FIN.out _
set_option maxHeartbeats 3200000 in
set_option maxRecDepth 100000 in
theorem AllocWord_fn (hA : At w mb cb m) (hP : PD w pb mb) {b0_ b1_ : Nat} (n : Int) (k0 : w.heap[b0_]? = some (.cells #[ptr pb] 36 (0, 0))) (k1 : w.heap[b1_]? = some (.cells #[.int .i64 n] 3 (0, 0))) :
    Calls Try.prog 114 #[.pointer (some ⟨b0_, 0, none⟩), .pointer (some ⟨b1_, 0, none⟩)] w (Ends w mb cb (ans .nilIface (m.alloc (number n)).2.1 false (m.alloc (number n)).2.2) (m.alloc (number n)).1) := by
  obtain ⟨M1, y1, y2, hy⟩ : ∃ M1 y1 y2, m.alloc (number n) = (M1, y1, y2) := ⟨_, _, _, rfl⟩
  have HY := Lib.hid hy
  clear hy
  rw [HY.out]
  obtain ⟨W, hW⟩ : ∃ W : World, W = w.alloc (.cells #[.nilIface, .int .i64 0, .bool false, .int .i64 0] 123) := ⟨_, rfl⟩
  have hb : Below w.heap.size w W := hW ▸ below_alloc (Below.refl _ _) _
  have hK0 : W.heap[w.heap.size]? = some (.cells #[.nilIface, .int .i64 0, .bool false, .int .i64 0] 123 (0, 0)) := hW ▸ blk_new w _
  have x0 := box1 (blk_below k0 hb)
  have x1 := box1 (blk_below k1 hb)
  have hA1 := hA.below hb
  have hP1 := hP.below hb
  obtain ⟨p0, p1, p2, p3, p4⟩ := hP1.cells
  have b1 : w.heap.size ≠ mb := by have := mb_lt hA; omega
  have b2 : w.heap.size ≠ cb := by have := cb_lt hA; omega
  have HW := Lib.hid hW
  have HK0 := Lib.hid hK0
  have HB := Lib.hid hb
  clear hW hK0 hb k0 k1 hA hP hP1
  go_enter Try.func114, Try.ntmps114
  go_wp2_with fail
  rw [← HW.out]
  refine start_ (n := 11) (S := fun w' => w' = W.drewN 1) (ds := [5]) #[false, false, false, false, false, false, false, false, false, false, false] rfl rfl rfl rfl ?_
  intro hS
  refine take_ (i := 0) (N := some 6) (v := ?_) (a' := ?_) #[true, false, false, false, false, false, false, false, false, false, false] rfl rfl (by kernel_rfl) (fun _ _ _ h => h) (Or.inl ⟨by rfl, ?_⟩) hS ?_ ?_
  rotate_left
  · rintro w' rfl
    go_simp
    with_reducible rfl
  rotate_left
  · simp only [Act.put, List.setIfInBounds_toArray, List.set_cons_zero, List.set_cons_succ, i64_w, i32_w]
    rfl
  refine take_ (i := 1) (N := some 7) (v := ?_) (a' := ?_) #[true, true, false, false, false, false, false, false, false, false, false] rfl rfl (by kernel_rfl) (fun _ _ _ h => h) (Or.inl ⟨by rfl, ?_⟩) hS ?_ ?_
  rotate_left
  · rintro w' rfl
    go_simp
    with_reducible rfl
  rotate_left
  · simp only [Act.put, List.setIfInBounds_toArray, List.set_cons_zero, List.set_cons_succ, i64_w, i32_w]
    rfl
  refine take_ (i := 2) (N := some 8) (v := ?_) (a' := ?_) #[true, true, true, false, false, false, false, false, false, false, false] rfl rfl (by kernel_rfl) (fun _ _ _ h => h) (Or.inl ⟨by rfl, ?_⟩) hS ?_ ?_
  rotate_left
  · rintro w' rfl
    go_simp
    with_reducible rfl
  rotate_left
  · simp only [Act.put, List.setIfInBounds_toArray, List.set_cons_zero, List.set_cons_succ, i64_w, i32_w]
    rfl
  refine take_ (i := 3) (N := some 9) (v := ?_) (a' := ?_) #[true, true, true, true, false, false, false, false, false, false, false] rfl rfl (by kernel_rfl) (fun _ _ _ h => h) (Or.inl ⟨by rfl, ?_⟩) hS ?_ ?_
  rotate_left
  · rintro w' rfl
    go_simp
    with_reducible rfl
  rotate_left
  · simp only [Act.put, List.setIfInBounds_toArray, List.set_cons_zero, List.set_cons_succ, i64_w, i32_w]
    rfl
  refine take_ (i := 4) (N := some 10) (v := ?_) (a' := ?_) #[true, true, true, true, true, false, false, false, false, false, false] rfl rfl (by kernel_rfl) (fun _ _ _ h => h) (Or.inl ⟨by rfl, ?_⟩) hS ?_ ?_
  rotate_left
  · rintro w' rfl
    go_simp
    with_reducible rfl
  rotate_left
  · simp only [Act.put, List.setIfInBounds_toArray, List.set_cons_zero, List.set_cons_succ, i64_w, i32_w]
    rfl
  refine last_ (i := 5) (N := some 11) #[true, true, true, true, true, true, false, false, false, false, false] rfl rfl (by kernel_rfl) (by decide) (fun K hK => ?_)
  refine goes_ Try.func115 (by kernel_rfl) rfl #[ptr mb, .int .i64 n] (by rfl) rfl rfl (by (try simp only [List.map_toArray, List.map_cons, List.map_nil]); rfl) ?_
  refine (AllocWord_calls (hA1.drewN 1) n).mono ?_
  rw [HY.out]
  rintro e W' ⟨rfl, hA', hF⟩
  refine ⟨_, rfl, ?_⟩
  refine hK.out _ _ ?_
  refine norm_ (a' := ?_) ?_ ?_
  rotate_left
  · simp only [Act.put, List.setIfInBounds_toArray, List.set_cons_zero, List.set_cons_succ, i64_w, i32_w]
    rfl
  refine pure_ (i := 6) (N := some 5) (v := ?_) (a' := ?_) #[true, true, true, true, true, true, true, false, false, false, false] rfl rfl (by kernel_rfl) (fun _ _ _ h => h) (Or.inl ⟨by rfl, ?_⟩) ?_ ?_
  rotate_left
  · intro w'
    go_simp
    with_reducible rfl
  rotate_left
  · simp only [Act.put, List.setIfInBounds_toArray, List.set_cons_zero, List.set_cons_succ, i64_w, i32_w]
    rfl
  refine pure_ (i := 7) (N := some 12) (v := ?_) (a' := ?_) #[true, true, true, true, true, true, true, true, false, false, false] rfl rfl (by kernel_rfl) (fun _ _ _ h => h) (Or.inl ⟨by rfl, ?_⟩) ?_ ?_
  rotate_left
  · intro w'
    go_simp
    with_reducible rfl
  rotate_left
  · simp only [Act.put, List.setIfInBounds_toArray, List.set_cons_zero, List.set_cons_succ, i64_w, i32_w]
    rfl
  refine pure_ (i := 8) (N := some 13) (v := ?_) (a' := ?_) #[true, true, true, true, true, true, true, true, true, false, false] rfl rfl (by kernel_rfl) (fun _ _ _ h => h) (Or.inl ⟨by rfl, ?_⟩) ?_ ?_
  rotate_left
  · intro w'
    go_simp
    with_reducible rfl
  rotate_left
  · simp only [Act.put, List.setIfInBounds_toArray, List.set_cons_zero, List.set_cons_succ, i64_w, i32_w]
    rfl
  refine pure_ (i := 9) (N := some 3) (v := ?_) (a' := ?_) #[true, true, true, true, true, true, true, true, true, true, false] rfl rfl (by kernel_rfl) (fun _ _ _ h => h) (Or.inl ⟨by rfl, ?_⟩) ?_ ?_
  rotate_left
  · intro w'
    go_simp
    with_reducible rfl
  rotate_left
  · simp only [Act.put, List.setIfInBounds_toArray, List.set_cons_zero, List.set_cons_succ, i64_w, i32_w]
    rfl
  refine pure_ (i := 10) (N := some 4) (v := ?_) (a' := ?_) #[true, true, true, true, true, true, true, true, true, true, true] rfl rfl (by kernel_rfl) (fun _ _ _ h => h) (Or.inl ⟨by rfl, ?_⟩) ?_ ?_
  rotate_left
  · intro w'
    go_simp
    with_reducible rfl
  rotate_left
  · simp only [Act.put, List.setIfInBounds_toArray, List.set_cons_zero, List.set_cons_succ, i64_w, i32_w]
    rfl
  refine done_ (by kernel_rfl) ?_
  all_goals
    have hK2 := (hF.block _ (blk_lt (show (W.drewN 1).heap[w.heap.size]? = _ from HK0.out)) b1 b2).trans (show (W.drewN 1).heap[w.heap.size]? = _ from HK0.out)
    have HF2 := Lib.hid ((Fr.of_below HB.out mb cb).trans ((Fr.of_below (pw_below_drewN (Below.refl _ _) 1) mb cb).trans hF))
    have HA := Lib.hid hA'
    obtain ⟨s0, s1, s2, s3⟩ := box4 hK2
    have z0 := blk_frozen hK2 0
    have z1 := blk_frozen hK2 1
    have z2 := blk_frozen hK2 2
    have z3 := blk_frozen hK2 3
    have HK2 := Lib.hid hK2
    clear hK2 hF hA' hA1 p0 p1 p2 p3 p4 x0 x1
    go_wp2_with fail
    have hk := blk4 HK2.out .nilIface (.int .i64 y1) (.bool false) (.int .i64 y2)
    obtain ⟨u0, u1, u2, u3⟩ := box4 hk
    have ho := only4 W' w.heap.size .nilIface (.int .i64 y1) (.bool false) (.int .i64 y2)
    have FIN := Lib.hid (show Ends w mb cb (ans .nilIface y1 false y2) M1 (.returned (ans .nilIface y1 false y2)) _ from ⟨rfl, HA.out.only ho (Ne.symm b1) (Ne.symm b2), HF2.out.only ho (Nat.le_refl _)⟩)
    clear ho hk s0 s1 s2 s3 z0 z1 z2 z3
    exact bodyPost_ret (v := ans .nilIface y1 false y2) (by simp [results, Try.results114, go_sem, u0, u1, u2, u3]) rfl FIN.out
set_option maxHeartbeats 1600000 in
set_option maxRecDepth 100000 in
theorem pAllocWord (hA : At w mb cb m) (hP : PD w pb mb) (n : Int) : Calls Try.prog 72 #[ptr pb, .int .i64 n] w (Ends w mb cb (.tuple #[.int .i64 (m.alloc (number n)).2.1, .int .i64 (m.alloc (number n)).2.2]) (m.alloc (number n)).1) := by
  have hmf := makeFunc_run
  obtain ⟨M1, y1, y2, hy⟩ : ∃ M1 y1 y2, m.alloc (number n) = (M1, y1, y2) := ⟨_, _, _, rfl⟩
  obtain ⟨W, hW⟩ : ∃ W : World, W = ((w.alloc (.cells #[ptr pb] 36)).alloc (.cells #[.int .i64 n] 3)) := ⟨_, rfl⟩
  have hb : Below w.heap.size w W := hW ▸ (below_alloc (below_alloc (Below.refl _ _) _) _)
  have k0 : W.heap[w.heap.size]? = some (.cells #[ptr pb] 36 (0, 0)) := by
    exact hW ▸ (blk_alloc (blk_new _ _) _)
  have x0 := box1 k0
  have K0 := Lib.hid k0
  clear k0
  have k1 : W.heap[w.heap.size + 1]? = some (.cells #[.int .i64 n] 3 (0, 0)) := by
    have e : w.heap.size + 1 = (w.alloc (.cells #[ptr pb] 36)).heap.size := by simp
    rw [e]
    exact hW ▸ (blk_new _ _)
  have x1 := box1 k1
  have K1 := Lib.hid k1
  clear k1
  have hA1 := hA.below hb
  have hP1 := hP.below hb
  have HW := Lib.hid hW
  have HB := Lib.hid hb
  have hd : ∀ W1, Below W.heap.size W W1 → Calls Try.prog 114 #[.pointer (some ⟨w.heap.size, 0, none⟩), .pointer (some ⟨w.heap.size + 1, 0, none⟩)] W1 (Ends W1 mb cb (ans .nilIface y1 false y2) M1) := by
    intro W1 h1
    have := AllocWord_fn (hA1.below h1) (hP1.below h1) n (blk_below K0.out h1) (blk_below K1.out h1)
    rw [hy] at this
    exact this
  rw [hy]
  have HY := Lib.hid hy
  have HD := Lib.hid hd
  clear hW hb hy hd
  go_enter Try.func72, Try.ntmps72
  go_wp2_with fail
  rw [← HW.out]
  refine (ask_calls hA1 hP1 (Or.inl rfl) (fun W => enters_ Try.func114 (by kernel_rfl) rfl _ W) HD.out).mono ?_
  rintro e W' ⟨rfl, hA', hF⟩
  have HF2 := Lib.hid ((Fr.of_below HB.out mb cb).trans hF)
  have HA := Lib.hid hA'
  clear hF hA' hA1 hP1 hA hP x0 x1
  have FIN := Lib.hid (show ∀ k, Ends w mb cb (.tuple #[.int .i64 y1, .int .i64 y2]) M1 (.returned (.tuple #[.int .i64 y1, .int .i64 y2])) _ from fun k => ⟨rfl, (HA.out.alloc (.cells #[.nilIface, .int .i64 y1, .bool false, .int .i64 y2] 123)).drewN k, (HF2.out.alloc _).drewN k⟩)
  go_wp2_with fail
  go_quiet (fail)
  go_wp2_with fail
  go_ret2
  exact FIN.out _
set_option maxHeartbeats 3200000 in
set_option maxRecDepth 100000 in
theorem Load_fn (hA : At w mb cb m) (hP : PD w pb mb) {b0_ b1_ : Nat} (h : Int) (k0 : w.heap[b0_]? = some (.cells #[ptr pb] 36 (0, 0))) (k1 : w.heap[b1_]? = some (.cells #[.int .i64 h] 3 (0, 0))) :
    Calls Try.prog 117 #[.pointer (some ⟨b0_, 0, none⟩), .pointer (some ⟨b1_, 0, none⟩)] w (Ends w mb cb (ans (m.load h).2.1 0 false (m.load h).2.2) (m.load h).1) := by
  obtain ⟨M1, y1, y2, hy⟩ : ∃ M1 y1 y2, m.load h = (M1, y1, y2) := ⟨_, _, _, rfl⟩
  have HY := Lib.hid hy
  clear hy
  rw [HY.out]
  have hbv : y1 = .nilIface ∨ ∃ T x, y1 = .iface T x := by
    have := load_iface hA h
    rw [HY.out] at this
    exact this
  obtain ⟨W, hW⟩ : ∃ W : World, W = w.alloc (.cells #[.nilIface, .int .i64 0, .bool false, .int .i64 0] 123) := ⟨_, rfl⟩
  have hb : Below w.heap.size w W := hW ▸ below_alloc (Below.refl _ _) _
  have hK0 : W.heap[w.heap.size]? = some (.cells #[.nilIface, .int .i64 0, .bool false, .int .i64 0] 123 (0, 0)) := hW ▸ blk_new w _
  have x0 := box1 (blk_below k0 hb)
  have x1 := box1 (blk_below k1 hb)
  have hA1 := hA.below hb
  have hP1 := hP.below hb
  obtain ⟨p0, p1, p2, p3, p4⟩ := hP1.cells
  have b1 : w.heap.size ≠ mb := by have := mb_lt hA; omega
  have b2 : w.heap.size ≠ cb := by have := cb_lt hA; omega
  have HW := Lib.hid hW
  have HK0 := Lib.hid hK0
  have HB := Lib.hid hb
  clear hW hK0 hb k0 k1 hA hP hP1
  go_enter Try.func117, Try.ntmps117
  go_wp2_with fail
  rw [← HW.out]
  refine start_ (n := 11) (S := fun w' => w' = W.drewN 1) (ds := [5]) #[false, false, false, false, false, false, false, false, false, false, false] rfl rfl rfl rfl ?_
  intro hS
  refine take_ (i := 0) (N := some 6) (v := ?_) (a' := ?_) #[true, false, false, false, false, false, false, false, false, false, false] rfl rfl (by kernel_rfl) (fun _ _ _ h => h) (Or.inl ⟨by rfl, ?_⟩) hS ?_ ?_
  rotate_left
  · rintro w' rfl
    go_simp
    with_reducible rfl
  rotate_left
  · simp only [Act.put, List.setIfInBounds_toArray, List.set_cons_zero, List.set_cons_succ, i64_w, i32_w]
    rfl
  refine take_ (i := 1) (N := some 7) (v := ?_) (a' := ?_) #[true, true, false, false, false, false, false, false, false, false, false] rfl rfl (by kernel_rfl) (fun _ _ _ h => h) (Or.inl ⟨by rfl, ?_⟩) hS ?_ ?_
  rotate_left
  · rintro w' rfl
    go_simp
    with_reducible rfl
  rotate_left
  · simp only [Act.put, List.setIfInBounds_toArray, List.set_cons_zero, List.set_cons_succ, i64_w, i32_w]
    rfl
  refine take_ (i := 2) (N := some 8) (v := ?_) (a' := ?_) #[true, true, true, false, false, false, false, false, false, false, false] rfl rfl (by kernel_rfl) (fun _ _ _ h => h) (Or.inl ⟨by rfl, ?_⟩) hS ?_ ?_
  rotate_left
  · rintro w' rfl
    go_simp
    with_reducible rfl
  rotate_left
  · simp only [Act.put, List.setIfInBounds_toArray, List.set_cons_zero, List.set_cons_succ, i64_w, i32_w]
    rfl
  refine take_ (i := 3) (N := some 9) (v := ?_) (a' := ?_) #[true, true, true, true, false, false, false, false, false, false, false] rfl rfl (by kernel_rfl) (fun _ _ _ h => h) (Or.inl ⟨by rfl, ?_⟩) hS ?_ ?_
  rotate_left
  · rintro w' rfl
    go_simp
    with_reducible rfl
  rotate_left
  · simp only [Act.put, List.setIfInBounds_toArray, List.set_cons_zero, List.set_cons_succ, i64_w, i32_w]
    rfl
  refine take_ (i := 4) (N := some 10) (v := ?_) (a' := ?_) #[true, true, true, true, true, false, false, false, false, false, false] rfl rfl (by kernel_rfl) (fun _ _ _ h => h) (Or.inl ⟨by rfl, ?_⟩) hS ?_ ?_
  rotate_left
  · rintro w' rfl
    go_simp
    with_reducible rfl
  rotate_left
  · simp only [Act.put, List.setIfInBounds_toArray, List.set_cons_zero, List.set_cons_succ, i64_w, i32_w]
    rfl
  refine last_ (i := 5) (N := some 11) #[true, true, true, true, true, true, false, false, false, false, false] rfl rfl (by kernel_rfl) (by decide) (fun K hK => ?_)
  refine goes_ Try.func118 (by kernel_rfl) rfl #[ptr mb, .int .i64 h] (by rfl) rfl rfl (by (try simp only [List.map_toArray, List.map_cons, List.map_nil]); rfl) ?_
  refine (Load_calls (hA1.drewN 1) h).mono ?_
  rw [HY.out]
  rintro e W' ⟨rfl, hA', hF⟩
  refine ⟨_, rfl, ?_⟩
  refine hK.out _ _ ?_
  refine norm_ (a' := ?_) ?_ ?_
  rotate_left
  · simp only [Act.put, List.setIfInBounds_toArray, List.set_cons_zero, List.set_cons_succ, i64_w, i32_w]
    rfl
  refine pure_ (i := 6) (N := some 5) (v := ?_) (a' := ?_) #[true, true, true, true, true, true, true, false, false, false, false] rfl rfl (by kernel_rfl) (fun _ _ _ h => h) (Or.inl ⟨by rfl, ?_⟩) ?_ ?_
  rotate_left
  · intro w'
    go_simp
    with_reducible rfl
  rotate_left
  · simp only [Act.put, List.setIfInBounds_toArray, List.set_cons_zero, List.set_cons_succ, i64_w, i32_w]
    rfl
  refine pure_ (i := 7) (N := some 12) (v := ?_) (a' := ?_) #[true, true, true, true, true, true, true, true, false, false, false] rfl rfl (by kernel_rfl) (fun _ _ _ h => h) (Or.inl ⟨by rfl, ?_⟩) ?_ ?_
  rotate_left
  · intro w'
    go_simp
    with_reducible rfl
  rotate_left
  · simp only [Act.put, List.setIfInBounds_toArray, List.set_cons_zero, List.set_cons_succ, i64_w, i32_w]
    rfl
  refine pure_ (i := 8) (N := some 13) (v := ?_) (a' := ?_) #[true, true, true, true, true, true, true, true, true, false, false] rfl rfl (by kernel_rfl) (fun _ _ _ h => h) (Or.inl ⟨by rfl, ?_⟩) ?_ ?_
  rotate_left
  · intro w'
    go_simp
    with_reducible rfl
  rotate_left
  · simp only [Act.put, List.setIfInBounds_toArray, List.set_cons_zero, List.set_cons_succ, i64_w, i32_w]
    rfl
  refine pure_ (i := 9) (N := some 3) (v := ?_) (a' := ?_) #[true, true, true, true, true, true, true, true, true, true, false] rfl rfl (by kernel_rfl) (fun _ _ _ h => h) (Or.inl ⟨by rfl, ?_⟩) ?_ ?_
  rotate_left
  · intro w'
    go_simp
    with_reducible rfl
  rotate_left
  · simp only [Act.put, List.setIfInBounds_toArray, List.set_cons_zero, List.set_cons_succ, i64_w, i32_w]
    rfl
  refine pure_ (i := 10) (N := some 4) (v := ?_) (a' := ?_) #[true, true, true, true, true, true, true, true, true, true, true] rfl rfl (by kernel_rfl) (fun _ _ _ h => h) (Or.inl ⟨by rfl, ?_⟩) ?_ ?_
  rotate_left
  · intro w'
    go_simp
    with_reducible rfl
  rotate_left
  · simp only [Act.put, List.setIfInBounds_toArray, List.set_cons_zero, List.set_cons_succ, i64_w, i32_w]
    rfl
  refine done_ (by kernel_rfl) ?_
  all_goals
    have hK2 := (hF.block _ (blk_lt (show (W.drewN 1).heap[w.heap.size]? = _ from HK0.out)) b1 b2).trans (show (W.drewN 1).heap[w.heap.size]? = _ from HK0.out)
    have HF2 := Lib.hid ((Fr.of_below HB.out mb cb).trans ((Fr.of_below (pw_below_drewN (Below.refl _ _) 1) mb cb).trans hF))
    have HA := Lib.hid hA'
    obtain ⟨s0, s1, s2, s3⟩ := box4 hK2
    have z0 := blk_frozen hK2 0
    have z1 := blk_frozen hK2 1
    have z2 := blk_frozen hK2 2
    have z3 := blk_frozen hK2 3
    have HK2 := Lib.hid hK2
    clear hK2 hF hA' hA1 p0 p1 p2 p3 p4 x0 x1
    rcases hbv with rfl | ⟨T, x, rfl⟩
    · go_wp2_with fail
      have hk := blk4 HK2.out .nilIface (.int .i64 0) (.bool false) (.int .i64 y2)
      obtain ⟨u0, u1, u2, u3⟩ := box4 hk
      have ho := only4 W' w.heap.size .nilIface (.int .i64 0) (.bool false) (.int .i64 y2)
      have FIN := Lib.hid (show Ends w mb cb (ans .nilIface 0 false y2) M1 (.returned (ans .nilIface 0 false y2)) _ from ⟨rfl, HA.out.only ho (Ne.symm b1) (Ne.symm b2), HF2.out.only ho (Nat.le_refl _)⟩)
      clear ho hk s0 s1 s2 s3 z0 z1 z2 z3
      exact bodyPost_ret (v := ans .nilIface 0 false y2) (by simp [results, Try.results117, go_sem, u0, u1, u2, u3]) rfl FIN.out
    · go_wp2_with fail
      have hk := blk4 HK2.out (.iface T x) (.int .i64 0) (.bool false) (.int .i64 y2)
      obtain ⟨u0, u1, u2, u3⟩ := box4 hk
      have ho := only4 W' w.heap.size (.iface T x) (.int .i64 0) (.bool false) (.int .i64 y2)
      have FIN := Lib.hid (show Ends w mb cb (ans (.iface T x) 0 false y2) M1 (.returned (ans (.iface T x) 0 false y2)) _ from ⟨rfl, HA.out.only ho (Ne.symm b1) (Ne.symm b2), HF2.out.only ho (Nat.le_refl _)⟩)
      clear ho hk s0 s1 s2 s3 z0 z1 z2 z3
      exact bodyPost_ret (v := ans (.iface T x) 0 false y2) (by simp [results, Try.results117, go_sem, u0, u1, u2, u3]) rfl FIN.out
set_option maxHeartbeats 1600000 in
set_option maxRecDepth 100000 in
theorem pLoad (hA : At w mb cb m) (hP : PD w pb mb) (h : Int) : Calls Try.prog 78 #[ptr pb, .int .i64 h] w (Ends w mb cb (.tuple #[(m.load h).2.1, .int .i64 (m.load h).2.2]) (m.load h).1) := by
  have hmf := makeFunc_run
  obtain ⟨M1, y1, y2, hy⟩ : ∃ M1 y1 y2, m.load h = (M1, y1, y2) := ⟨_, _, _, rfl⟩
  obtain ⟨W, hW⟩ : ∃ W : World, W = ((w.alloc (.cells #[ptr pb] 36)).alloc (.cells #[.int .i64 h] 3)) := ⟨_, rfl⟩
  have hb : Below w.heap.size w W := hW ▸ (below_alloc (below_alloc (Below.refl _ _) _) _)
  have k0 : W.heap[w.heap.size]? = some (.cells #[ptr pb] 36 (0, 0)) := by
    exact hW ▸ (blk_alloc (blk_new _ _) _)
  have x0 := box1 k0
  have K0 := Lib.hid k0
  clear k0
  have k1 : W.heap[w.heap.size + 1]? = some (.cells #[.int .i64 h] 3 (0, 0)) := by
    have e : w.heap.size + 1 = (w.alloc (.cells #[ptr pb] 36)).heap.size := by simp
    rw [e]
    exact hW ▸ (blk_new _ _)
  have x1 := box1 k1
  have K1 := Lib.hid k1
  clear k1
  have hA1 := hA.below hb
  have hP1 := hP.below hb
  have HW := Lib.hid hW
  have HB := Lib.hid hb
  have hbv : y1 = .nilIface ∨ ∃ T x, y1 = .iface T x := by
    have := load_iface hA h
    rw [hy] at this
    exact this
  have hd : ∀ W1, Below W.heap.size W W1 → Calls Try.prog 117 #[.pointer (some ⟨w.heap.size, 0, none⟩), .pointer (some ⟨w.heap.size + 1, 0, none⟩)] W1 (Ends W1 mb cb (ans y1 0 false y2) M1) := by
    intro W1 h1
    have := Load_fn (hA1.below h1) (hP1.below h1) h (blk_below K0.out h1) (blk_below K1.out h1)
    rw [hy] at this
    exact this
  rw [hy]
  have HY := Lib.hid hy
  have HD := Lib.hid hd
  clear hW hb hy hd
  go_enter Try.func78, Try.ntmps78
  go_wp2_with fail
  rw [← HW.out]
  refine (ask_calls hA1 hP1 hbv (fun W => enters_ Try.func117 (by kernel_rfl) rfl _ W) HD.out).mono ?_
  rintro e W' ⟨rfl, hA', hF⟩
  have HF2 := Lib.hid ((Fr.of_below HB.out mb cb).trans hF)
  have HA := Lib.hid hA'
  clear hF hA' hA1 hP1 hA hP x0 x1
  have FIN := Lib.hid (show ∀ k, Ends w mb cb (.tuple #[y1, .int .i64 y2]) M1 (.returned (.tuple #[y1, .int .i64 y2])) _ from fun k => ⟨rfl, (HA.out.alloc (.cells #[y1, .int .i64 0, .bool false, .int .i64 y2] 123)).drewN k, (HF2.out.alloc _).drewN k⟩)
  rcases hbv with rfl | ⟨T, x, rfl⟩
  · go_wp2_with fail
    go_quiet (fail)
    go_wp2_with fail
    go_ret2
    exact FIN.out _
  · go_wp2_with fail
    go_quiet (fail)
    go_wp2_with fail
    go_ret2
    exact FIN.out _
set_option maxHeartbeats 3200000 in
set_option maxRecDepth 100000 in
theorem Word_fn (hA : At w mb cb m) (hP : PD w pb mb) {b0_ b1_ : Nat} (h : Int) (k0 : w.heap[b0_]? = some (.cells #[ptr pb] 36 (0, 0))) (k1 : w.heap[b1_]? = some (.cells #[.int .i64 h] 3 (0, 0))) :
    Calls Try.prog 119 #[.pointer (some ⟨b0_, 0, none⟩), .pointer (some ⟨b1_, 0, none⟩)] w (Ends w mb cb (ans .nilIface (m.word h).2.1 false (m.word h).2.2) (m.word h).1) := by
  obtain ⟨M1, y1, y2, hy⟩ : ∃ M1 y1 y2, m.word h = (M1, y1, y2) := ⟨_, _, _, rfl⟩
  have HY := Lib.hid hy
  clear hy
  rw [HY.out]
  obtain ⟨W, hW⟩ : ∃ W : World, W = w.alloc (.cells #[.nilIface, .int .i64 0, .bool false, .int .i64 0] 123) := ⟨_, rfl⟩
  have hb : Below w.heap.size w W := hW ▸ below_alloc (Below.refl _ _) _
  have hK0 : W.heap[w.heap.size]? = some (.cells #[.nilIface, .int .i64 0, .bool false, .int .i64 0] 123 (0, 0)) := hW ▸ blk_new w _
  have x0 := box1 (blk_below k0 hb)
  have x1 := box1 (blk_below k1 hb)
  have hA1 := hA.below hb
  have hP1 := hP.below hb
  obtain ⟨p0, p1, p2, p3, p4⟩ := hP1.cells
  have b1 : w.heap.size ≠ mb := by have := mb_lt hA; omega
  have b2 : w.heap.size ≠ cb := by have := cb_lt hA; omega
  have HW := Lib.hid hW
  have HK0 := Lib.hid hK0
  have HB := Lib.hid hb
  clear hW hK0 hb k0 k1 hA hP hP1
  go_enter Try.func119, Try.ntmps119
  go_wp2_with fail
  rw [← HW.out]
  refine start_ (n := 11) (S := fun w' => w' = W.drewN 1) (ds := [5]) #[false, false, false, false, false, false, false, false, false, false, false] rfl rfl rfl rfl ?_
  intro hS
  refine take_ (i := 0) (N := some 6) (v := ?_) (a' := ?_) #[true, false, false, false, false, false, false, false, false, false, false] rfl rfl (by kernel_rfl) (fun _ _ _ h => h) (Or.inl ⟨by rfl, ?_⟩) hS ?_ ?_
  rotate_left
  · rintro w' rfl
    go_simp
    with_reducible rfl
  rotate_left
  · simp only [Act.put, List.setIfInBounds_toArray, List.set_cons_zero, List.set_cons_succ, i64_w, i32_w]
    rfl
  refine take_ (i := 1) (N := some 7) (v := ?_) (a' := ?_) #[true, true, false, false, false, false, false, false, false, false, false] rfl rfl (by kernel_rfl) (fun _ _ _ h => h) (Or.inl ⟨by rfl, ?_⟩) hS ?_ ?_
  rotate_left
  · rintro w' rfl
    go_simp
    with_reducible rfl
  rotate_left
  · simp only [Act.put, List.setIfInBounds_toArray, List.set_cons_zero, List.set_cons_succ, i64_w, i32_w]
    rfl
  refine take_ (i := 2) (N := some 8) (v := ?_) (a' := ?_) #[true, true, true, false, false, false, false, false, false, false, false] rfl rfl (by kernel_rfl) (fun _ _ _ h => h) (Or.inl ⟨by rfl, ?_⟩) hS ?_ ?_
  rotate_left
  · rintro w' rfl
    go_simp
    with_reducible rfl
  rotate_left
  · simp only [Act.put, List.setIfInBounds_toArray, List.set_cons_zero, List.set_cons_succ, i64_w, i32_w]
    rfl
  refine take_ (i := 3) (N := some 9) (v := ?_) (a' := ?_) #[true, true, true, true, false, false, false, false, false, false, false] rfl rfl (by kernel_rfl) (fun _ _ _ h => h) (Or.inl ⟨by rfl, ?_⟩) hS ?_ ?_
  rotate_left
  · rintro w' rfl
    go_simp
    with_reducible rfl
  rotate_left
  · simp only [Act.put, List.setIfInBounds_toArray, List.set_cons_zero, List.set_cons_succ, i64_w, i32_w]
    rfl
  refine take_ (i := 4) (N := some 10) (v := ?_) (a' := ?_) #[true, true, true, true, true, false, false, false, false, false, false] rfl rfl (by kernel_rfl) (fun _ _ _ h => h) (Or.inl ⟨by rfl, ?_⟩) hS ?_ ?_
  rotate_left
  · rintro w' rfl
    go_simp
    with_reducible rfl
  rotate_left
  · simp only [Act.put, List.setIfInBounds_toArray, List.set_cons_zero, List.set_cons_succ, i64_w, i32_w]
    rfl
  refine last_ (i := 5) (N := some 11) #[true, true, true, true, true, true, false, false, false, false, false] rfl rfl (by kernel_rfl) (by decide) (fun K hK => ?_)
  refine goes_ Try.func76 (by kernel_rfl) rfl #[ptr mb, .int .i64 h] (by rfl) rfl rfl (by (try simp only [List.map_toArray, List.map_cons, List.map_nil]); rfl) ?_
  refine (Word_calls (hA1.drewN 1) h).mono ?_
  rw [HY.out]
  rintro e W' ⟨rfl, hA', hF⟩
  refine ⟨_, rfl, ?_⟩
  refine hK.out _ _ ?_
  refine norm_ (a' := ?_) ?_ ?_
  rotate_left
  · simp only [Act.put, List.setIfInBounds_toArray, List.set_cons_zero, List.set_cons_succ, i64_w, i32_w]
    rfl
  refine pure_ (i := 6) (N := some 5) (v := ?_) (a' := ?_) #[true, true, true, true, true, true, true, false, false, false, false] rfl rfl (by kernel_rfl) (fun _ _ _ h => h) (Or.inl ⟨by rfl, ?_⟩) ?_ ?_
  rotate_left
  · intro w'
    go_simp
    with_reducible rfl
  rotate_left
  · simp only [Act.put, List.setIfInBounds_toArray, List.set_cons_zero, List.set_cons_succ, i64_w, i32_w]
    rfl
  refine pure_ (i := 7) (N := some 12) (v := ?_) (a' := ?_) #[true, true, true, true, true, true, true, true, false, false, false] rfl rfl (by kernel_rfl) (fun _ _ _ h => h) (Or.inl ⟨by rfl, ?_⟩) ?_ ?_
  rotate_left
  · intro w'
    go_simp
    with_reducible rfl
  rotate_left
  · simp only [Act.put, List.setIfInBounds_toArray, List.set_cons_zero, List.set_cons_succ, i64_w, i32_w]
    rfl
  refine pure_ (i := 8) (N := some 13) (v := ?_) (a' := ?_) #[true, true, true, true, true, true, true, true, true, false, false] rfl rfl (by kernel_rfl) (fun _ _ _ h => h) (Or.inl ⟨by rfl, ?_⟩) ?_ ?_
  rotate_left
  · intro w'
    go_simp
    with_reducible rfl
  rotate_left
  · simp only [Act.put, List.setIfInBounds_toArray, List.set_cons_zero, List.set_cons_succ, i64_w, i32_w]
    rfl
  refine pure_ (i := 9) (N := some 3) (v := ?_) (a' := ?_) #[true, true, true, true, true, true, true, true, true, true, false] rfl rfl (by kernel_rfl) (fun _ _ _ h => h) (Or.inl ⟨by rfl, ?_⟩) ?_ ?_
  rotate_left
  · intro w'
    go_simp
    with_reducible rfl
  rotate_left
  · simp only [Act.put, List.setIfInBounds_toArray, List.set_cons_zero, List.set_cons_succ, i64_w, i32_w]
    rfl
  refine pure_ (i := 10) (N := some 4) (v := ?_) (a' := ?_) #[true, true, true, true, true, true, true, true, true, true, true] rfl rfl (by kernel_rfl) (fun _ _ _ h => h) (Or.inl ⟨by rfl, ?_⟩) ?_ ?_
  rotate_left
  · intro w'
    go_simp
    with_reducible rfl
  rotate_left
  · simp only [Act.put, List.setIfInBounds_toArray, List.set_cons_zero, List.set_cons_succ, i64_w, i32_w]
    rfl
  refine done_ (by kernel_rfl) ?_
  all_goals
    have hK2 := (hF.block _ (blk_lt (show (W.drewN 1).heap[w.heap.size]? = _ from HK0.out)) b1 b2).trans (show (W.drewN 1).heap[w.heap.size]? = _ from HK0.out)
    have HF2 := Lib.hid ((Fr.of_below HB.out mb cb).trans ((Fr.of_below (pw_below_drewN (Below.refl _ _) 1) mb cb).trans hF))
    have HA := Lib.hid hA'
    obtain ⟨s0, s1, s2, s3⟩ := box4 hK2
    have z0 := blk_frozen hK2 0
    have z1 := blk_frozen hK2 1
    have z2 := blk_frozen hK2 2
    have z3 := blk_frozen hK2 3
    have HK2 := Lib.hid hK2
    clear hK2 hF hA' hA1 p0 p1 p2 p3 p4 x0 x1
    go_wp2_with fail
    have hk := blk4 HK2.out .nilIface (.int .i64 y1) (.bool false) (.int .i64 y2)
    obtain ⟨u0, u1, u2, u3⟩ := box4 hk
    have ho := only4 W' w.heap.size .nilIface (.int .i64 y1) (.bool false) (.int .i64 y2)
    have FIN := Lib.hid (show Ends w mb cb (ans .nilIface y1 false y2) M1 (.returned (ans .nilIface y1 false y2)) _ from ⟨rfl, HA.out.only ho (Ne.symm b1) (Ne.symm b2), HF2.out.only ho (Nat.le_refl _)⟩)
    clear ho hk s0 s1 s2 s3 z0 z1 z2 z3
    exact bodyPost_ret (v := ans .nilIface y1 false y2) (by simp [results, Try.results119, go_sem, u0, u1, u2, u3]) rfl FIN.out
set_option maxHeartbeats 1600000 in
set_option maxRecDepth 100000 in
theorem pWord (hA : At w mb cb m) (hP : PD w pb mb) (h : Int) : Calls Try.prog 79 #[ptr pb, .int .i64 h] w (Ends w mb cb (.tuple #[.int .i64 (m.word h).2.1, .int .i64 (m.word h).2.2]) (m.word h).1) := by
  have hmf := makeFunc_run
  obtain ⟨M1, y1, y2, hy⟩ : ∃ M1 y1 y2, m.word h = (M1, y1, y2) := ⟨_, _, _, rfl⟩
  obtain ⟨W, hW⟩ : ∃ W : World, W = ((w.alloc (.cells #[ptr pb] 36)).alloc (.cells #[.int .i64 h] 3)) := ⟨_, rfl⟩
  have hb : Below w.heap.size w W := hW ▸ (below_alloc (below_alloc (Below.refl _ _) _) _)
  have k0 : W.heap[w.heap.size]? = some (.cells #[ptr pb] 36 (0, 0)) := by
    exact hW ▸ (blk_alloc (blk_new _ _) _)
  have x0 := box1 k0
  have K0 := Lib.hid k0
  clear k0
  have k1 : W.heap[w.heap.size + 1]? = some (.cells #[.int .i64 h] 3 (0, 0)) := by
    have e : w.heap.size + 1 = (w.alloc (.cells #[ptr pb] 36)).heap.size := by simp
    rw [e]
    exact hW ▸ (blk_new _ _)
  have x1 := box1 k1
  have K1 := Lib.hid k1
  clear k1
  have hA1 := hA.below hb
  have hP1 := hP.below hb
  have HW := Lib.hid hW
  have HB := Lib.hid hb
  have hd : ∀ W1, Below W.heap.size W W1 → Calls Try.prog 119 #[.pointer (some ⟨w.heap.size, 0, none⟩), .pointer (some ⟨w.heap.size + 1, 0, none⟩)] W1 (Ends W1 mb cb (ans .nilIface y1 false y2) M1) := by
    intro W1 h1
    have := Word_fn (hA1.below h1) (hP1.below h1) h (blk_below K0.out h1) (blk_below K1.out h1)
    rw [hy] at this
    exact this
  rw [hy]
  have HY := Lib.hid hy
  have HD := Lib.hid hd
  clear hW hb hy hd
  go_enter Try.func79, Try.ntmps79
  go_wp2_with fail
  rw [← HW.out]
  refine (ask_calls hA1 hP1 (Or.inl rfl) (fun W => enters_ Try.func119 (by kernel_rfl) rfl _ W) HD.out).mono ?_
  rintro e W' ⟨rfl, hA', hF⟩
  have HF2 := Lib.hid ((Fr.of_below HB.out mb cb).trans hF)
  have HA := Lib.hid hA'
  clear hF hA' hA1 hP1 hA hP x0 x1
  have FIN := Lib.hid (show ∀ k, Ends w mb cb (.tuple #[.int .i64 y1, .int .i64 y2]) M1 (.returned (.tuple #[.int .i64 y1, .int .i64 y2])) _ from fun k => ⟨rfl, (HA.out.alloc (.cells #[.nilIface, .int .i64 y1, .bool false, .int .i64 y2] 123)).drewN k, (HF2.out.alloc _).drewN k⟩)
  go_wp2_with fail
  go_quiet (fail)
  go_wp2_with fail
  go_ret2
  exact FIN.out _
end
end Go.Proofs.Ytahnmklofgnagaa.Mem
