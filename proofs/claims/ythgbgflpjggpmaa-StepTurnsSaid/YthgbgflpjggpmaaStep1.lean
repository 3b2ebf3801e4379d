/- What a port's functions hand to ask: the closures. -/
import Derived.Test.YthgbgflpjggpmaaStep0
namespace Go.Proofs.Ythgbgflpjggpmaa.Mem
open Go.RowKit Go.Proofs.YthgbgflpjggpmaaW.PrintWords Go.Proofs.YthgbgflpjggpmaaW.PrintLast Go.Proofs.Ythgbgflpjggpmaa.Tags
set_option linter.unusedVariables false
set_option linter.unusedSimpArgs false
section
variable {w w' : World} {pb mb cb : Nat} {m : M} {v_ : Value} {at_ l_ n_ : Int}
set_option maxHeartbeats 3200000 in
set_option maxRecDepth 100000 in
theorem AllocWord_fn (hA : At w mb cb m) (hP : PG w pb mb v_ at_ l_ n_) {b0_ b1_ : Nat} (n : Int) (k0 : w.heap[b0_]? = some (.cells #[ptr pb] 33 (0, 0))) (k1 : w.heap[b1_]? = some (.cells #[.int .i64 n] 3 (0, 0))) :
    Calls Try.prog 48 #[.pointer (some ⟨b0_, 0, none⟩), .pointer (some ⟨b1_, 0, none⟩)] w (Ends w mb cb (ans .nilIface (m.alloc (number n)).2.1 false (m.alloc (number n)).2.2) (m.alloc (number n)).1) := by
  obtain ⟨M1, y1, y2, hy⟩ : ∃ M1 y1 y2, m.alloc (number n) = (M1, y1, y2) := ⟨_, _, _, rfl⟩
  have HY := Lib.hid hy
  clear hy
  rw [HY.out]
  obtain ⟨W, hW⟩ : ∃ W : World, W = w.alloc (.cells #[.nilIface, .int .i64 0, .bool false, .int .i64 0] 76) := ⟨_, rfl⟩
  have hb : Below w.heap.size w W := hW ▸ below_alloc (Below.refl _ _) _
  have hK0 : W.heap[w.heap.size]? = some (.cells #[.nilIface, .int .i64 0, .bool false, .int .i64 0] 76 (0, 0)) := hW ▸ blk_new w _
  have x0 := box1 (blk_below k0 hb)
  have x1 := box1 (blk_below k1 hb)
  have hA1 := hA.below hb
  have hP1 := hP.below hb
  obtain ⟨p0, p1, p2, p3, p4⟩ := hP1.cells
  have b1 : w.heap.size ≠ mb := by have := mb_lt hA; omega
  have b2 : w.heap.size ≠ cb := by have := cb_lt hA; omega
  have HW := Lib.hid hW
  have HK0 := Lib.hid hK0
  have HB := Lib.hid hb
  clear hW hK0 hb k0 k1 hA hP hP1
  go_enter Try.func48, Try.ntmps48
  go_wp2_with fail
  rw [← HW.out]
  refine start_ (n := 11) (S := fun w' => w' = W.drewN 1) (ds := [5]) #[false, false, false, false, false, false, false, false, false, false, false] rfl rfl rfl rfl ?_
  intro hS
  refine take_ (i := 0) (N := some 6) (v := ?_) (a' := ?_) #[true, false, false, false, false, false, false, false, false, false, false] rfl rfl (by kernel_rfl) (fun _ _ _ h => h) (Or.inl ⟨by rfl, ?_⟩) hS ?_ ?_
  rotate_left
  · rintro w' rfl
    go_simp
    with_reducible rfl
  rotate_left
  · simp only [Act.put, List.setIfInBounds_toArray, List.set_cons_zero, List.set_cons_succ, i64_w, i32_w]
    rfl
  refine take_ (i := 1) (N := some 7) (v := ?_) (a' := ?_) #[true, true, false, false, false, false, false, false, false, false, false] rfl rfl (by kernel_rfl) (fun _ _ _ h => h) (Or.inl ⟨by rfl, ?_⟩) hS ?_ ?_
  rotate_left
  · rintro w' rfl
    go_simp
    with_reducible rfl
  rotate_left
  · simp only [Act.put, List.setIfInBounds_toArray, List.set_cons_zero, List.set_cons_succ, i64_w, i32_w]
    rfl
  refine take_ (i := 2) (N := some 8) (v := ?_) (a' := ?_) #[true, true, true, false, false, false, false, false, false, false, false] rfl rfl (by kernel_rfl) (fun _ _ _ h => h) (Or.inl ⟨by rfl, ?_⟩) hS ?_ ?_
  rotate_left
  · rintro w' rfl
    go_simp
    with_reducible rfl
  rotate_left
  · simp only [Act.put, List.setIfInBounds_toArray, List.set_cons_zero, List.set_cons_succ, i64_w, i32_w]
    rfl
  refine take_ (i := 3) (N := some 9) (v := ?_) (a' := ?_) #[true, true, true, true, false, false, false, false, false, false, false] rfl rfl (by kernel_rfl) (fun _ _ _ h => h) (Or.inl ⟨by rfl, ?_⟩) hS ?_ ?_
  rotate_left
  · rintro w' rfl
    go_simp
    with_reducible rfl
  rotate_left
  · simp only [Act.put, List.setIfInBounds_toArray, List.set_cons_zero, List.set_cons_succ, i64_w, i32_w]
    rfl
  refine take_ (i := 4) (N := some 10) (v := ?_) (a' := ?_) #[true, true, true, true, true, false, false, false, false, false, false] rfl rfl (by kernel_rfl) (fun _ _ _ h => h) (Or.inl ⟨by rfl, ?_⟩) hS ?_ ?_
  rotate_left
  · rintro w' rfl
    go_simp
    with_reducible rfl
  rotate_left
  · simp only [Act.put, List.setIfInBounds_toArray, List.set_cons_zero, List.set_cons_succ, i64_w, i32_w]
    rfl
  refine last_ (i := 5) (N := some 11) #[true, true, true, true, true, true, false, false, false, false, false] rfl rfl (by kernel_rfl) (by decide) (fun K hK => ?_)
  refine goes_ Try.func8 (by kernel_rfl) rfl #[ptr mb, .int .i64 n] (by rfl) rfl rfl (by (try simp only [List.map_toArray, List.map_cons, List.map_nil]); rfl) ?_
  refine (AllocWord_calls (hA1.drewN 1) n).mono ?_
  rw [HY.out]
  rintro e W' ⟨rfl, hA', hF⟩
  refine ⟨_, rfl, ?_⟩
  refine hK.out _ _ ?_
  refine norm_ (a' := ?_) ?_ ?_
  rotate_left
  · simp only [Act.put, List.setIfInBounds_toArray, List.set_cons_zero, List.set_cons_succ, i64_w, i32_w]
    rfl
  refine pure_ (i := 6) (N := some 5) (v := ?_) (a' := ?_) #[true, true, true, true, true, true, true, false, false, false, false] rfl rfl (by kernel_rfl) (fun _ _ _ h => h) (Or.inl ⟨by rfl, ?_⟩) ?_ ?_
  rotate_left
  · intro w'
    go_simp
    with_reducible rfl
  rotate_left
  · simp only [Act.put, List.setIfInBounds_toArray, List.set_cons_zero, List.set_cons_succ, i64_w, i32_w]
    rfl
  refine pure_ (i := 7) (N := some 12) (v := ?_) (a' := ?_) #[true, true, true, true, true, true, true, true, false, false, false] rfl rfl (by kernel_rfl) (fun _ _ _ h => h) (Or.inl ⟨by rfl, ?_⟩) ?_ ?_
  rotate_left
  · intro w'
    go_simp
    with_reducible rfl
  rotate_left
  · simp only [Act.put, List.setIfInBounds_toArray, List.set_cons_zero, List.set_cons_succ, i64_w, i32_w]
    rfl
  refine pure_ (i := 8) (N := some 13) (v := ?_) (a' := ?_) #[true, true, true, true, true, true, true, true, true, false, false] rfl rfl (by kernel_rfl) (fun _ _ _ h => h) (Or.inl ⟨by rfl, ?_⟩) ?_ ?_
  rotate_left
  · intro w'
    go_simp
    with_reducible rfl
  rotate_left
  · simp only [Act.put, List.setIfInBounds_toArray, List.set_cons_zero, List.set_cons_succ, i64_w, i32_w]
    rfl
  refine pure_ (i := 9) (N := some 3) (v := ?_) (a' := ?_) #[true, true, true, true, true, true, true, true, true, true, false] rfl rfl (by kernel_rfl) (fun _ _ _ h => h) (Or.inl ⟨by rfl, ?_⟩) ?_ ?_
  rotate_left
  · intro w'
    go_simp
    with_reducible rfl
  rotate_left
  · simp only [Act.put, List.setIfInBounds_toArray, List.set_cons_zero, List.set_cons_succ, i64_w, i32_w]
    rfl
  refine pure_ (i := 10) (N := some 4) (v := ?_) (a' := ?_) #[true, true, true, true, true, true, true, true, true, true, true] rfl rfl (by kernel_rfl) (fun _ _ _ h => h) (Or.inl ⟨by rfl, ?_⟩) ?_ ?_
  rotate_left
  · intro w'
    go_simp
    with_reducible rfl
  rotate_left
  · simp only [Act.put, List.setIfInBounds_toArray, List.set_cons_zero, List.set_cons_succ, i64_w, i32_w]
    rfl
  refine done_ (by kernel_rfl) ?_
  all_goals
    have hK2 := (hF.block _ (blk_lt (show (W.drewN 1).heap[w.heap.size]? = _ from HK0.out)) b1 b2).trans (show (W.drewN 1).heap[w.heap.size]? = _ from HK0.out)
    have HF2 := Lib.hid ((Fr.of_below HB.out mb cb).trans ((Fr.of_below (pw_below_drewN (Below.refl _ _) 1) mb cb).trans hF))
    have HA := Lib.hid hA'
    obtain ⟨s0, s1, s2, s3⟩ := box4 hK2
    have z0 := blk_frozen hK2 0
    have z1 := blk_frozen hK2 1
    have z2 := blk_frozen hK2 2
    have z3 := blk_frozen hK2 3
    have HK2 := Lib.hid hK2
    clear hK2 hF hA' hA1 p0 p1 p2 p3 p4 x0 x1
    go_wp2_with fail
    have hk := blk4 HK2.out .nilIface (.int .i64 y1) (.bool false) (.int .i64 y2)
    obtain ⟨u0, u1, u2, u3⟩ := box4 hk
    have ho := only4 W' w.heap.size .nilIface (.int .i64 y1) (.bool false) (.int .i64 y2)
    have FIN := Lib.hid (show Ends w mb cb (ans .nilIface y1 false y2) M1 (.returned (ans .nilIface y1 false y2)) _ from ⟨rfl, HA.out.only ho (Ne.symm b1) (Ne.symm b2), HF2.out.only ho (Nat.le_refl _)⟩)
    clear ho hk s0 s1 s2 s3 z0 z1 z2 z3
    exact bodyPost_ret (v := ans .nilIface y1 false y2) (by simp [results, Try.results48, go_sem, u0, u1, u2, u3]) rfl FIN.out
set_option maxHeartbeats 1600000 in
set_option maxRecDepth 100000 in
def QAllocWord (n : Int) : M → M × Ans := fun m : M => ((m.alloc (number n)).1, (⟨.nilIface, (m.alloc (number n)).2.1, false, (m.alloc (number n)).2.2⟩ : Ans))
def RAllocWord (a : Ans) : Value := .tuple #[.int .i64 a.n, .int .i64 a.e]
set_option maxHeartbeats 3200000 in
set_option maxRecDepth 100000 in
theorem Word_fn (hA : At w mb cb m) (hP : PG w pb mb v_ at_ l_ n_) {b0_ b1_ : Nat} (h : Int) (k0 : w.heap[b0_]? = some (.cells #[ptr pb] 33 (0, 0))) (k1 : w.heap[b1_]? = some (.cells #[.int .i64 h] 3 (0, 0))) :
    Calls Try.prog 33 #[.pointer (some ⟨b0_, 0, none⟩), .pointer (some ⟨b1_, 0, none⟩)] w (Ends w mb cb (ans .nilIface (m.word h).2.1 false (m.word h).2.2) (m.word h).1) := by
  obtain ⟨M1, y1, y2, hy⟩ : ∃ M1 y1 y2, m.word h = (M1, y1, y2) := ⟨_, _, _, rfl⟩
  have HY := Lib.hid hy
  clear hy
  rw [HY.out]
  obtain ⟨W, hW⟩ : ∃ W : World, W = w.alloc (.cells #[.nilIface, .int .i64 0, .bool false, .int .i64 0] 76) := ⟨_, rfl⟩
  have hb : Below w.heap.size w W := hW ▸ below_alloc (Below.refl _ _) _
  have hK0 : W.heap[w.heap.size]? = some (.cells #[.nilIface, .int .i64 0, .bool false, .int .i64 0] 76 (0, 0)) := hW ▸ blk_new w _
  have x0 := box1 (blk_below k0 hb)
  have x1 := box1 (blk_below k1 hb)
  have hA1 := hA.below hb
  have hP1 := hP.below hb
  obtain ⟨p0, p1, p2, p3, p4⟩ := hP1.cells
  have b1 : w.heap.size ≠ mb := by have := mb_lt hA; omega
  have b2 : w.heap.size ≠ cb := by have := cb_lt hA; omega
  have HW := Lib.hid hW
  have HK0 := Lib.hid hK0
  have HB := Lib.hid hb
  clear hW hK0 hb k0 k1 hA hP hP1
  go_enter Try.func33, Try.ntmps33
  go_wp2_with fail
  rw [← HW.out]
  refine start_ (n := 11) (S := fun w' => w' = W.drewN 1) (ds := [5]) #[false, false, false, false, false, false, false, false, false, false, false] rfl rfl rfl rfl ?_
  intro hS
  refine take_ (i := 0) (N := some 6) (v := ?_) (a' := ?_) #[true, false, false, false, false, false, false, false, false, false, false] rfl rfl (by kernel_rfl) (fun _ _ _ h => h) (Or.inl ⟨by rfl, ?_⟩) hS ?_ ?_
  rotate_left
  · rintro w' rfl
    go_simp
    with_reducible rfl
  rotate_left
  · simp only [Act.put, List.setIfInBounds_toArray, List.set_cons_zero, List.set_cons_succ, i64_w, i32_w]
    rfl
  refine take_ (i := 1) (N := some 7) (v := ?_) (a' := ?_) #[true, true, false, false, false, false, false, false, false, false, false] rfl rfl (by kernel_rfl) (fun _ _ _ h => h) (Or.inl ⟨by rfl, ?_⟩) hS ?_ ?_
  rotate_left
  · rintro w' rfl
    go_simp
    with_reducible rfl
  rotate_left
  · simp only [Act.put, List.setIfInBounds_toArray, List.set_cons_zero, List.set_cons_succ, i64_w, i32_w]
    rfl
  refine take_ (i := 2) (N := some 8) (v := ?_) (a' := ?_) #[true, true, true, false, false, false, false, false, false, false, false] rfl rfl (by kernel_rfl) (fun _ _ _ h => h) (Or.inl ⟨by rfl, ?_⟩) hS ?_ ?_
  rotate_left
  · rintro w' rfl
    go_simp
    with_reducible rfl
  rotate_left
  · simp only [Act.put, List.setIfInBounds_toArray, List.set_cons_zero, List.set_cons_succ, i64_w, i32_w]
    rfl
  refine take_ (i := 3) (N := some 9) (v := ?_) (a' := ?_) #[true, true, true, true, false, false, false, false, false, false, false] rfl rfl (by kernel_rfl) (fun _ _ _ h => h) (Or.inl ⟨by rfl, ?_⟩) hS ?_ ?_
  rotate_left
  · rintro w' rfl
    go_simp
    with_reducible rfl
  rotate_left
  · simp only [Act.put, List.setIfInBounds_toArray, List.set_cons_zero, List.set_cons_succ, i64_w, i32_w]
    rfl
  refine take_ (i := 4) (N := some 10) (v := ?_) (a' := ?_) #[true, true, true, true, true, false, false, false, false, false, false] rfl rfl (by kernel_rfl) (fun _ _ _ h => h) (Or.inl ⟨by rfl, ?_⟩) hS ?_ ?_
  rotate_left
  · rintro w' rfl
    go_simp
    with_reducible rfl
  rotate_left
  · simp only [Act.put, List.setIfInBounds_toArray, List.set_cons_zero, List.set_cons_succ, i64_w, i32_w]
    rfl
  refine last_ (i := 5) (N := some 11) #[true, true, true, true, true, true, false, false, false, false, false] rfl rfl (by kernel_rfl) (by decide) (fun K hK => ?_)
  refine goes_ Try.func16 (by kernel_rfl) rfl #[ptr mb, .int .i64 h] (by rfl) rfl rfl (by (try simp only [List.map_toArray, List.map_cons, List.map_nil]); rfl) ?_
  refine (Word_calls (hA1.drewN 1) h).mono ?_
  rw [HY.out]
  rintro e W' ⟨rfl, hA', hF⟩
  refine ⟨_, rfl, ?_⟩
  refine hK.out _ _ ?_
  refine norm_ (a' := ?_) ?_ ?_
  rotate_left
  · simp only [Act.put, List.setIfInBounds_toArray, List.set_cons_zero, List.set_cons_succ, i64_w, i32_w]
    rfl
  refine pure_ (i := 6) (N := some 5) (v := ?_) (a' := ?_) #[true, true, true, true, true, true, true, false, false, false, false] rfl rfl (by kernel_rfl) (fun _ _ _ h => h) (Or.inl ⟨by rfl, ?_⟩) ?_ ?_
  rotate_left
  · intro w'
    go_simp
    with_reducible rfl
  rotate_left
  · simp only [Act.put, List.setIfInBounds_toArray, List.set_cons_zero, List.set_cons_succ, i64_w, i32_w]
    rfl
  refine pure_ (i := 7) (N := some 12) (v := ?_) (a' := ?_) #[true, true, true, true, true, true, true, true, false, false, false] rfl rfl (by kernel_rfl) (fun _ _ _ h => h) (Or.inl ⟨by rfl, ?_⟩) ?_ ?_
  rotate_left
  · intro w'
    go_simp
    with_reducible rfl
  rotate_left
  · simp only [Act.put, List.setIfInBounds_toArray, List.set_cons_zero, List.set_cons_succ, i64_w, i32_w]
    rfl
  refine pure_ (i := 8) (N := some 13) (v := ?_) (a' := ?_) #[true, true, true, true, true, true, true, true, true, false, false] rfl rfl (by kernel_rfl) (fun _ _ _ h => h) (Or.inl ⟨by rfl, ?_⟩) ?_ ?_
  rotate_left
  · intro w'
    go_simp
    with_reducible rfl
  rotate_left
  · simp only [Act.put, List.setIfInBounds_toArray, List.set_cons_zero, List.set_cons_succ, i64_w, i32_w]
    rfl
  refine pure_ (i := 9) (N := some 3) (v := ?_) (a' := ?_) #[true, true, true, true, true, true, true, true, true, true, false] rfl rfl (by kernel_rfl) (fun _ _ _ h => h) (Or.inl ⟨by rfl, ?_⟩) ?_ ?_
  rotate_left
  · intro w'
    go_simp
    with_reducible rfl
  rotate_left
  · simp only [Act.put, List.setIfInBounds_toArray, List.set_cons_zero, List.set_cons_succ, i64_w, i32_w]
    rfl
  refine pure_ (i := 10) (N := some 4) (v := ?_) (a' := ?_) #[true, true, true, true, true, true, true, true, true, true, true] rfl rfl (by kernel_rfl) (fun _ _ _ h => h) (Or.inl ⟨by rfl, ?_⟩) ?_ ?_
  rotate_left
  · intro w'
    go_simp
    with_reducible rfl
  rotate_left
  · simp only [Act.put, List.setIfInBounds_toArray, List.set_cons_zero, List.set_cons_succ, i64_w, i32_w]
    rfl
  refine done_ (by kernel_rfl) ?_
  all_goals
    have hK2 := (hF.block _ (blk_lt (show (W.drewN 1).heap[w.heap.size]? = _ from HK0.out)) b1 b2).trans (show (W.drewN 1).heap[w.heap.size]? = _ from HK0.out)
    have HF2 := Lib.hid ((Fr.of_below HB.out mb cb).trans ((Fr.of_below (pw_below_drewN (Below.refl _ _) 1) mb cb).trans hF))
    have HA := Lib.hid hA'
    obtain ⟨s0, s1, s2, s3⟩ := box4 hK2
    have z0 := blk_frozen hK2 0
    have z1 := blk_frozen hK2 1
    have z2 := blk_frozen hK2 2
    have z3 := blk_frozen hK2 3
    have HK2 := Lib.hid hK2
    clear hK2 hF hA' hA1 p0 p1 p2 p3 p4 x0 x1
    go_wp2_with fail
    have hk := blk4 HK2.out .nilIface (.int .i64 y1) (.bool false) (.int .i64 y2)
    obtain ⟨u0, u1, u2, u3⟩ := box4 hk
    have ho := only4 W' w.heap.size .nilIface (.int .i64 y1) (.bool false) (.int .i64 y2)
    have FIN := Lib.hid (show Ends w mb cb (ans .nilIface y1 false y2) M1 (.returned (ans .nilIface y1 false y2)) _ from ⟨rfl, HA.out.only ho (Ne.symm b1) (Ne.symm b2), HF2.out.only ho (Nat.le_refl _)⟩)
    clear ho hk s0 s1 s2 s3 z0 z1 z2 z3
    exact bodyPost_ret (v := ans .nilIface y1 false y2) (by simp [results, Try.results33, go_sem, u0, u1, u2, u3]) rfl FIN.out
set_option maxHeartbeats 1600000 in
set_option maxRecDepth 100000 in
def QWord (h : Int) : M → M × Ans := fun m : M => ((m.word h).1, (⟨.nilIface, (m.word h).2.1, false, (m.word h).2.2⟩ : Ans))
def RWord (a : Ans) : Value := .tuple #[.int .i64 a.n, .int .i64 a.e]
set_option maxHeartbeats 3200000 in
set_option maxRecDepth 100000 in
theorem Store_fn (hA : At w mb cb m) (hP : PG w pb mb v_ at_ l_ n_) {b0_ b1_ b2_ : Nat} (h n : Int) (k0 : w.heap[b0_]? = some (.cells #[ptr pb] 33 (0, 0))) (k1 : w.heap[b1_]? = some (.cells #[.int .i64 h] 3 (0, 0))) (k2 : w.heap[b2_]? = some (.cells #[.int .i64 n] 3 (0, 0))) :
    Calls Try.prog 63 #[.pointer (some ⟨b0_, 0, none⟩), .pointer (some ⟨b1_, 0, none⟩), .pointer (some ⟨b2_, 0, none⟩)] w (Ends w mb cb (ans .nilIface 0 false (m.store h n).2) (m.store h n).1) := by
  obtain ⟨M1, y2, hy⟩ : ∃ M1 y2, m.store h n = (M1, y2) := ⟨_, _, rfl⟩
  have HY := Lib.hid hy
  clear hy
  rw [HY.out]
  obtain ⟨W, hW⟩ : ∃ W : World, W = w.alloc (.cells #[.nilIface, .int .i64 0, .bool false, .int .i64 0] 76) := ⟨_, rfl⟩
  have hb : Below w.heap.size w W := hW ▸ below_alloc (Below.refl _ _) _
  have hK0 : W.heap[w.heap.size]? = some (.cells #[.nilIface, .int .i64 0, .bool false, .int .i64 0] 76 (0, 0)) := hW ▸ blk_new w _
  have x0 := box1 (blk_below k0 hb)
  have x1 := box1 (blk_below k1 hb)
  have x2 := box1 (blk_below k2 hb)
  have hA1 := hA.below hb
  have hP1 := hP.below hb
  obtain ⟨p0, p1, p2, p3, p4⟩ := hP1.cells
  have b1 : w.heap.size ≠ mb := by have := mb_lt hA; omega
  have b2 : w.heap.size ≠ cb := by have := cb_lt hA; omega
  have HW := Lib.hid hW
  have HK0 := Lib.hid hK0
  have HB := Lib.hid hb
  clear hW hK0 hb k0 k1 k2 hA hP hP1
  go_enter Try.func63, Try.ntmps63
  go_wp2_with fail
  rw [← HW.out]
  go_still_tail 6, (by kernel_rfl)
  change wpList _ _ _ _ _ (W.drewN 1)
  go_wp2_with fail
  refine (Store_calls (hA1.drewN 1) h n).mono ?_
  rw [HY.out]
  rintro e W' ⟨rfl, hA', hF⟩
  all_goals
    have hK2 := (hF.block _ (blk_lt (show (W.drewN 1).heap[w.heap.size]? = _ from HK0.out)) b1 b2).trans (show (W.drewN 1).heap[w.heap.size]? = _ from HK0.out)
    have HF2 := Lib.hid ((Fr.of_below HB.out mb cb).trans ((Fr.of_below (pw_below_drewN (Below.refl _ _) 1) mb cb).trans hF))
    have HA := Lib.hid hA'
    obtain ⟨s0, s1, s2, s3⟩ := box4 hK2
    have z0 := blk_frozen hK2 0
    have z1 := blk_frozen hK2 1
    have z2 := blk_frozen hK2 2
    have z3 := blk_frozen hK2 3
    have HK2 := Lib.hid hK2
    clear hK2 hF hA' hA1 p0 p1 p2 p3 p4 x0 x1 x2
    go_wp2_with fail
    have hk := blk4 HK2.out .nilIface (.int .i64 0) (.bool false) (.int .i64 y2)
    obtain ⟨u0, u1, u2, u3⟩ := box4 hk
    have ho := only4 W' w.heap.size .nilIface (.int .i64 0) (.bool false) (.int .i64 y2)
    have FIN := Lib.hid (show Ends w mb cb (ans .nilIface 0 false y2) M1 (.returned (ans .nilIface 0 false y2)) _ from ⟨rfl, HA.out.only ho (Ne.symm b1) (Ne.symm b2), HF2.out.only ho (Nat.le_refl _)⟩)
    clear ho hk s0 s1 s2 s3 z0 z1 z2 z3
    exact bodyPost_ret (v := ans .nilIface 0 false y2) (by simp [results, Try.results63, go_sem, u0, u1, u2, u3]) rfl FIN.out
set_option maxHeartbeats 1600000 in
set_option maxRecDepth 100000 in
def QStore (h n : Int) : M → M × Ans := fun m : M => ((m.store h n).1, (⟨.nilIface, 0, false, (m.store h n).2⟩ : Ans))
def RStore (a : Ans) : Value := .int .i64 a.e
set_option maxHeartbeats 32000000 in
set_option maxRecDepth 100000 in
theorem Swap_fn (hA : At w mb cb m) (hP : PG w pb mb v_ at_ l_ n_) {b0_ b1_ b2_ b3_ : Nat} (h o n : Int) (k0 : w.heap[b0_]? = some (.cells #[ptr pb] 33 (0, 0))) (k1 : w.heap[b1_]? = some (.cells #[.int .i64 h] 3 (0, 0))) (k2 : w.heap[b2_]? = some (.cells #[.int .i64 o] 3 (0, 0))) (k3 : w.heap[b3_]? = some (.cells #[.int .i64 n] 3 (0, 0))) :
    Calls Try.prog 34 #[.pointer (some ⟨b0_, 0, none⟩), .pointer (some ⟨b1_, 0, none⟩), .pointer (some ⟨b2_, 0, none⟩), .pointer (some ⟨b3_, 0, none⟩)] w (Ends w mb cb (ans .nilIface 0 (m.swap h o n).2.1 (m.swap h o n).2.2) (m.swap h o n).1) := by
  obtain ⟨M1, y1, y2, hy⟩ : ∃ M1 y1 y2, m.swap h o n = (M1, y1, y2) := ⟨_, _, _, rfl⟩
  have HY := Lib.hid hy
  clear hy
  rw [HY.out]
  obtain ⟨W, hW⟩ : ∃ W : World, W = w.alloc (.cells #[.nilIface, .int .i64 0, .bool false, .int .i64 0] 76) := ⟨_, rfl⟩
  have hb : Below w.heap.size w W := hW ▸ below_alloc (Below.refl _ _) _
  have hK0 : W.heap[w.heap.size]? = some (.cells #[.nilIface, .int .i64 0, .bool false, .int .i64 0] 76 (0, 0)) := hW ▸ blk_new w _
  have x0 := box1 (blk_below k0 hb)
  have x1 := box1 (blk_below k1 hb)
  have x2 := box1 (blk_below k2 hb)
  have x3 := box1 (blk_below k3 hb)
  have hA1 := hA.below hb
  have hP1 := hP.below hb
  obtain ⟨p0, p1, p2, p3, p4⟩ := hP1.cells
  have b1 : w.heap.size ≠ mb := by have := mb_lt hA; omega
  have b2 : w.heap.size ≠ cb := by have := cb_lt hA; omega
  have HW := Lib.hid hW
  have HK0 := Lib.hid hK0
  have HB := Lib.hid hb
  clear hW hK0 hb k0 k1 k2 k3 hA hP hP1
  go_enter Try.func34, Try.ntmps34
  go_wp2_with fail
  rw [← HW.out]
  refine start_ (n := 13) (S := fun w' => w' = W.drewN 1) (ds := [7]) #[false, false, false, false, false, false, false, false, false, false, false, false, false] rfl rfl rfl rfl ?_
  intro hS
  refine take_ (i := 0) (N := some 8) (v := ?_) (a' := ?_) #[true, false, false, false, false, false, false, false, false, false, false, false, false] rfl rfl (by kernel_rfl) (fun _ _ _ h => h) (Or.inl ⟨by rfl, ?_⟩) hS ?_ ?_
  rotate_left
  · rintro w' rfl
    go_simp
    with_reducible rfl
  rotate_left
  · simp only [Act.put, List.setIfInBounds_toArray, List.set_cons_zero, List.set_cons_succ, i64_w, i32_w]
    rfl
  refine take_ (i := 1) (N := some 9) (v := ?_) (a' := ?_) #[true, true, false, false, false, false, false, false, false, false, false, false, false] rfl rfl (by kernel_rfl) (fun _ _ _ h => h) (Or.inl ⟨by rfl, ?_⟩) hS ?_ ?_
  rotate_left
  · rintro w' rfl
    go_simp
    with_reducible rfl
  rotate_left
  · simp only [Act.put, List.setIfInBounds_toArray, List.set_cons_zero, List.set_cons_succ, i64_w, i32_w]
    rfl
  refine take_ (i := 2) (N := some 10) (v := ?_) (a' := ?_) #[true, true, true, false, false, false, false, false, false, false, false, false, false] rfl rfl (by kernel_rfl) (fun _ _ _ h => h) (Or.inl ⟨by rfl, ?_⟩) hS ?_ ?_
  rotate_left
  · rintro w' rfl
    go_simp
    with_reducible rfl
  rotate_left
  · simp only [Act.put, List.setIfInBounds_toArray, List.set_cons_zero, List.set_cons_succ, i64_w, i32_w]
    rfl
  refine take_ (i := 3) (N := some 11) (v := ?_) (a' := ?_) #[true, true, true, true, false, false, false, false, false, false, false, false, false] rfl rfl (by kernel_rfl) (fun _ _ _ h => h) (Or.inl ⟨by rfl, ?_⟩) hS ?_ ?_
  rotate_left
  · rintro w' rfl
    go_simp
    with_reducible rfl
  rotate_left
  · simp only [Act.put, List.setIfInBounds_toArray, List.set_cons_zero, List.set_cons_succ, i64_w, i32_w]
    rfl
  refine take_ (i := 4) (N := some 12) (v := ?_) (a' := ?_) #[true, true, true, true, true, false, false, false, false, false, false, false, false] rfl rfl (by kernel_rfl) (fun _ _ _ h => h) (Or.inl ⟨by rfl, ?_⟩) hS ?_ ?_
  rotate_left
  · rintro w' rfl
    go_simp
    with_reducible rfl
  rotate_left
  · simp only [Act.put, List.setIfInBounds_toArray, List.set_cons_zero, List.set_cons_succ, i64_w, i32_w]
    rfl
  refine take_ (i := 5) (N := some 13) (v := ?_) (a' := ?_) #[true, true, true, true, true, true, false, false, false, false, false, false, false] rfl rfl (by kernel_rfl) (fun _ _ _ h => h) (Or.inl ⟨by rfl, ?_⟩) hS ?_ ?_
  rotate_left
  · rintro w' rfl
    go_simp
    with_reducible rfl
  rotate_left
  · simp only [Act.put, List.setIfInBounds_toArray, List.set_cons_zero, List.set_cons_succ, i64_w, i32_w]
    rfl
  refine take_ (i := 6) (N := some 14) (v := ?_) (a' := ?_) #[true, true, true, true, true, true, true, false, false, false, false, false, false] rfl rfl (by kernel_rfl) (fun _ _ _ h => h) (Or.inl ⟨by rfl, ?_⟩) hS ?_ ?_
  rotate_left
  · rintro w' rfl
    go_simp
    with_reducible rfl
  rotate_left
  · simp only [Act.put, List.setIfInBounds_toArray, List.set_cons_zero, List.set_cons_succ, i64_w, i32_w]
    rfl
  refine last_ (i := 7) (N := some 15) #[true, true, true, true, true, true, true, true, false, false, false, false, false] rfl rfl (by kernel_rfl) (by decide) (fun K hK => ?_)
  refine goes_ Try.func35 (by kernel_rfl) rfl #[ptr mb, .int .i64 h, .int .i64 o, .int .i64 n] (by rfl) rfl rfl (by (try simp only [List.map_toArray, List.map_cons, List.map_nil]); rfl) ?_
  refine (Swap_calls (hA1.drewN 1) h o n).mono ?_
  rw [HY.out]
  rintro e W' ⟨rfl, hA', hF⟩
  refine ⟨_, rfl, ?_⟩
  refine hK.out _ _ ?_
  refine norm_ (a' := ?_) ?_ ?_
  rotate_left
  · simp only [Act.put, List.setIfInBounds_toArray, List.set_cons_zero, List.set_cons_succ, i64_w, i32_w]
    rfl
  refine pure_ (i := 8) (N := some 7) (v := ?_) (a' := ?_) #[true, true, true, true, true, true, true, true, true, false, false, false, false] rfl rfl (by kernel_rfl) (fun _ _ _ h => h) (Or.inl ⟨by rfl, ?_⟩) ?_ ?_
  rotate_left
  · intro w'
    go_simp
    with_reducible rfl
  rotate_left
  · simp only [Act.put, List.setIfInBounds_toArray, List.set_cons_zero, List.set_cons_succ, i64_w, i32_w]
    rfl
  refine pure_ (i := 9) (N := some 16) (v := ?_) (a' := ?_) #[true, true, true, true, true, true, true, true, true, true, false, false, false] rfl rfl (by kernel_rfl) (fun _ _ _ h => h) (Or.inl ⟨by rfl, ?_⟩) ?_ ?_
  rotate_left
  · intro w'
    go_simp
    with_reducible rfl
  rotate_left
  · simp only [Act.put, List.setIfInBounds_toArray, List.set_cons_zero, List.set_cons_succ, i64_w, i32_w]
    rfl
  refine pure_ (i := 10) (N := some 17) (v := ?_) (a' := ?_) #[true, true, true, true, true, true, true, true, true, true, true, false, false] rfl rfl (by kernel_rfl) (fun _ _ _ h => h) (Or.inl ⟨by rfl, ?_⟩) ?_ ?_
  rotate_left
  · intro w'
    go_simp
    with_reducible rfl
  rotate_left
  · simp only [Act.put, List.setIfInBounds_toArray, List.set_cons_zero, List.set_cons_succ, i64_w, i32_w]
    rfl
  refine pure_ (i := 11) (N := some 5) (v := ?_) (a' := ?_) #[true, true, true, true, true, true, true, true, true, true, true, true, false] rfl rfl (by kernel_rfl) (fun _ _ _ h => h) (Or.inl ⟨by rfl, ?_⟩) ?_ ?_
  rotate_left
  · intro w'
    go_simp
    with_reducible rfl
  rotate_left
  · simp only [Act.put, List.setIfInBounds_toArray, List.set_cons_zero, List.set_cons_succ, i64_w, i32_w]
    rfl
  refine pure_ (i := 12) (N := some 6) (v := ?_) (a' := ?_) #[true, true, true, true, true, true, true, true, true, true, true, true, true] rfl rfl (by kernel_rfl) (fun _ _ _ h => h) (Or.inl ⟨by rfl, ?_⟩) ?_ ?_
  rotate_left
  · intro w'
    go_simp
    with_reducible rfl
  rotate_left
  · simp only [Act.put, List.setIfInBounds_toArray, List.set_cons_zero, List.set_cons_succ, i64_w, i32_w]
    rfl
  refine done_ (by kernel_rfl) ?_
  all_goals
    have hK2 := (hF.block _ (blk_lt (show (W.drewN 1).heap[w.heap.size]? = _ from HK0.out)) b1 b2).trans (show (W.drewN 1).heap[w.heap.size]? = _ from HK0.out)
    have HF2 := Lib.hid ((Fr.of_below HB.out mb cb).trans ((Fr.of_below (pw_below_drewN (Below.refl _ _) 1) mb cb).trans hF))
    have HA := Lib.hid hA'
    obtain ⟨s0, s1, s2, s3⟩ := box4 hK2
    have z0 := blk_frozen hK2 0
    have z1 := blk_frozen hK2 1
    have z2 := blk_frozen hK2 2
    have z3 := blk_frozen hK2 3
    have HK2 := Lib.hid hK2
    clear hK2 hF hA' hA1 p0 p1 p2 p3 p4 x0 x1 x2 x3
    go_wp2_with fail
    have hk := blk4 HK2.out .nilIface (.int .i64 0) (.bool y1) (.int .i64 y2)
    obtain ⟨u0, u1, u2, u3⟩ := box4 hk
    have ho := only4 W' w.heap.size .nilIface (.int .i64 0) (.bool y1) (.int .i64 y2)
    have FIN := Lib.hid (show Ends w mb cb (ans .nilIface 0 y1 y2) M1 (.returned (ans .nilIface 0 y1 y2)) _ from ⟨rfl, HA.out.only ho (Ne.symm b1) (Ne.symm b2), HF2.out.only ho (Nat.le_refl _)⟩)
    clear ho hk s0 s1 s2 s3 z0 z1 z2 z3
    exact bodyPost_ret (v := ans .nilIface 0 y1 y2) (by simp [results, Try.results34, go_sem, u0, u1, u2, u3]) rfl FIN.out
set_option maxHeartbeats 1600000 in
set_option maxRecDepth 100000 in
def QSwap (h o n : Int) : M → M × Ans := fun m : M => ((m.swap h o n).1, (⟨.nilIface, 0, (m.swap h o n).2.1, (m.swap h o n).2.2⟩ : Ans))
def RSwap (a : Ans) : Value := .tuple #[.bool a.ok, .int .i64 a.e]
set_option maxHeartbeats 3200000 in
set_option maxRecDepth 100000 in
theorem Free_fn (hA : At w mb cb m) (hP : PG w pb mb v_ at_ l_ n_) {b0_ b1_ : Nat} (h : Int) (k0 : w.heap[b0_]? = some (.cells #[ptr pb] 33 (0, 0))) (k1 : w.heap[b1_]? = some (.cells #[.int .i64 h] 3 (0, 0))) :
    Calls Try.prog 65 #[.pointer (some ⟨b0_, 0, none⟩), .pointer (some ⟨b1_, 0, none⟩)] w (Ends w mb cb (ans .nilIface 0 false (m.free h).2) (m.free h).1) := by
  obtain ⟨M1, y2, hy⟩ : ∃ M1 y2, m.free h = (M1, y2) := ⟨_, _, rfl⟩
  have HY := Lib.hid hy
  clear hy
  rw [HY.out]
  obtain ⟨W, hW⟩ : ∃ W : World, W = w.alloc (.cells #[.nilIface, .int .i64 0, .bool false, .int .i64 0] 76) := ⟨_, rfl⟩
  have hb : Below w.heap.size w W := hW ▸ below_alloc (Below.refl _ _) _
  have hK0 : W.heap[w.heap.size]? = some (.cells #[.nilIface, .int .i64 0, .bool false, .int .i64 0] 76 (0, 0)) := hW ▸ blk_new w _
  have x0 := box1 (blk_below k0 hb)
  have x1 := box1 (blk_below k1 hb)
  have hA1 := hA.below hb
  have hP1 := hP.below hb
  obtain ⟨p0, p1, p2, p3, p4⟩ := hP1.cells
  have b1 : w.heap.size ≠ mb := by have := mb_lt hA; omega
  have b2 : w.heap.size ≠ cb := by have := cb_lt hA; omega
  have HW := Lib.hid hW
  have HK0 := Lib.hid hK0
  have HB := Lib.hid hb
  clear hW hK0 hb k0 k1 hA hP hP1
  go_enter Try.func65, Try.ntmps65
  go_wp2_with fail
  rw [← HW.out]
  go_still_tail 5, (by kernel_rfl)
  change wpList _ _ _ _ _ (W.drewN 1)
  go_wp2_with fail
  refine (Free_calls (hA1.drewN 1) h).mono ?_
  rw [HY.out]
  rintro e W' ⟨rfl, hA', hF⟩
  all_goals
    have hK2 := (hF.block _ (blk_lt (show (W.drewN 1).heap[w.heap.size]? = _ from HK0.out)) b1 b2).trans (show (W.drewN 1).heap[w.heap.size]? = _ from HK0.out)
    have HF2 := Lib.hid ((Fr.of_below HB.out mb cb).trans ((Fr.of_below (pw_below_drewN (Below.refl _ _) 1) mb cb).trans hF))
    have HA := Lib.hid hA'
    obtain ⟨s0, s1, s2, s3⟩ := box4 hK2
    have z0 := blk_frozen hK2 0
    have z1 := blk_frozen hK2 1
    have z2 := blk_frozen hK2 2
    have z3 := blk_frozen hK2 3
    have HK2 := Lib.hid hK2
    clear hK2 hF hA' hA1 p0 p1 p2 p3 p4 x0 x1
    go_wp2_with fail
    have hk := blk4 HK2.out .nilIface (.int .i64 0) (.bool false) (.int .i64 y2)
    obtain ⟨u0, u1, u2, u3⟩ := box4 hk
    have ho := only4 W' w.heap.size .nilIface (.int .i64 0) (.bool false) (.int .i64 y2)
    have FIN := Lib.hid (show Ends w mb cb (ans .nilIface 0 false y2) M1 (.returned (ans .nilIface 0 false y2)) _ from ⟨rfl, HA.out.only ho (Ne.symm b1) (Ne.symm b2), HF2.out.only ho (Nat.le_refl _)⟩)
    clear ho hk s0 s1 s2 s3 z0 z1 z2 z3
    exact bodyPost_ret (v := ans .nilIface 0 false y2) (by simp [results, Try.results65, go_sem, u0, u1, u2, u3]) rfl FIN.out
set_option maxHeartbeats 1600000 in
set_option maxRecDepth 100000 in
def QFree (h : Int) : M → M × Ans := fun m : M => ((m.free h).1, (⟨.nilIface, 0, false, (m.free h).2⟩ : Ans))
def RFree (a : Ans) : Value := .int .i64 a.e
set_option maxHeartbeats 3200000 in
set_option maxRecDepth 100000 in
theorem Retire_fn (hA : At w mb cb m) (hP : PG w pb mb v_ at_ l_ n_) {b0_ b1_ b2_ : Nat} (h s : Int) (k0 : w.heap[b0_]? = some (.cells #[ptr pb] 33 (0, 0))) (k1 : w.heap[b1_]? = some (.cells #[.int .i64 h] 3 (0, 0))) (k2 : w.heap[b2_]? = some (.cells #[.int .i64 s] 3 (0, 0))) :
    Calls Try.prog 67 #[.pointer (some ⟨b0_, 0, none⟩), .pointer (some ⟨b1_, 0, none⟩), .pointer (some ⟨b2_, 0, none⟩)] w (Ends w mb cb (ans .nilIface 0 false (m.retire h s).2) (m.retire h s).1) := by
  obtain ⟨M1, y2, hy⟩ : ∃ M1 y2, m.retire h s = (M1, y2) := ⟨_, _, rfl⟩
  have HY := Lib.hid hy
  clear hy
  rw [HY.out]
  obtain ⟨W, hW⟩ : ∃ W : World, W = w.alloc (.cells #[.nilIface, .int .i64 0, .bool false, .int .i64 0] 76) := ⟨_, rfl⟩
  have hb : Below w.heap.size w W := hW ▸ below_alloc (Below.refl _ _) _
  have hK0 : W.heap[w.heap.size]? = some (.cells #[.nilIface, .int .i64 0, .bool false, .int .i64 0] 76 (0, 0)) := hW ▸ blk_new w _
  have x0 := box1 (blk_below k0 hb)
  have x1 := box1 (blk_below k1 hb)
  have x2 := box1 (blk_below k2 hb)
  have hA1 := hA.below hb
  have hP1 := hP.below hb
  obtain ⟨p0, p1, p2, p3, p4⟩ := hP1.cells
  have b1 : w.heap.size ≠ mb := by have := mb_lt hA; omega
  have b2 : w.heap.size ≠ cb := by have := cb_lt hA; omega
  have HW := Lib.hid hW
  have HK0 := Lib.hid hK0
  have HB := Lib.hid hb
  clear hW hK0 hb k0 k1 k2 hA hP hP1
  go_enter Try.func67, Try.ntmps67
  go_wp2_with fail
  rw [← HW.out]
  go_still_tail 6, (by kernel_rfl)
  change wpList _ _ _ _ _ (W.drewN 1)
  go_wp2_with fail
  refine (Retire_calls (hA1.drewN 1) h s).mono ?_
  rw [HY.out]
  rintro e W' ⟨rfl, hA', hF⟩
  all_goals
    have hK2 := (hF.block _ (blk_lt (show (W.drewN 1).heap[w.heap.size]? = _ from HK0.out)) b1 b2).trans (show (W.drewN 1).heap[w.heap.size]? = _ from HK0.out)
    have HF2 := Lib.hid ((Fr.of_below HB.out mb cb).trans ((Fr.of_below (pw_below_drewN (Below.refl _ _) 1) mb cb).trans hF))
    have HA := Lib.hid hA'
    obtain ⟨s0, s1, s2, s3⟩ := box4 hK2
    have z0 := blk_frozen hK2 0
    have z1 := blk_frozen hK2 1
    have z2 := blk_frozen hK2 2
    have z3 := blk_frozen hK2 3
    have HK2 := Lib.hid hK2
    clear hK2 hF hA' hA1 p0 p1 p2 p3 p4 x0 x1 x2
    go_wp2_with fail
    have hk := blk4 HK2.out .nilIface (.int .i64 0) (.bool false) (.int .i64 y2)
    obtain ⟨u0, u1, u2, u3⟩ := box4 hk
    have ho := only4 W' w.heap.size .nilIface (.int .i64 0) (.bool false) (.int .i64 y2)
    have FIN := Lib.hid (show Ends w mb cb (ans .nilIface 0 false y2) M1 (.returned (ans .nilIface 0 false y2)) _ from ⟨rfl, HA.out.only ho (Ne.symm b1) (Ne.symm b2), HF2.out.only ho (Nat.le_refl _)⟩)
    clear ho hk s0 s1 s2 s3 z0 z1 z2 z3
    exact bodyPost_ret (v := ans .nilIface 0 false y2) (by simp [results, Try.results67, go_sem, u0, u1, u2, u3]) rfl FIN.out
set_option maxHeartbeats 1600000 in
set_option maxRecDepth 100000 in
def QRetire (h s : Int) : M → M × Ans := fun m : M => ((m.retire h s).1, (⟨.nilIface, 0, false, (m.retire h s).2⟩ : Ans))
def RRetire (a : Ans) : Value := .int .i64 a.e
set_option maxHeartbeats 3200000 in
set_option maxRecDepth 100000 in
theorem Reap_fn (hA : At w mb cb m) (hP : PG w pb mb v_ at_ l_ n_) {b0_ b1_ b2_ : Nat} (p b : Int) (k0 : w.heap[b0_]? = some (.cells #[ptr pb] 33 (0, 0))) (k1 : w.heap[b1_]? = some (.cells #[.int .i64 p] 3 (0, 0))) (k2 : w.heap[b2_]? = some (.cells #[.int .i64 b] 3 (0, 0))) :
    Calls Try.prog 69 #[.pointer (some ⟨b0_, 0, none⟩), .pointer (some ⟨b1_, 0, none⟩), .pointer (some ⟨b2_, 0, none⟩)] w (Ends w mb cb (ans .nilIface 0 (m.reap p b).2.1 (m.reap p b).2.2) (m.reap p b).1) := by
  obtain ⟨M1, y1, y2, hy⟩ : ∃ M1 y1 y2, m.reap p b = (M1, y1, y2) := ⟨_, _, _, rfl⟩
  have HY := Lib.hid hy
  clear hy
  rw [HY.out]
  obtain ⟨W, hW⟩ : ∃ W : World, W = w.alloc (.cells #[.nilIface, .int .i64 0, .bool false, .int .i64 0] 76) := ⟨_, rfl⟩
  have hb : Below w.heap.size w W := hW ▸ below_alloc (Below.refl _ _) _
  have hK0 : W.heap[w.heap.size]? = some (.cells #[.nilIface, .int .i64 0, .bool false, .int .i64 0] 76 (0, 0)) := hW ▸ blk_new w _
  have x0 := box1 (blk_below k0 hb)
  have x1 := box1 (blk_below k1 hb)
  have x2 := box1 (blk_below k2 hb)
  have hA1 := hA.below hb
  have hP1 := hP.below hb
  obtain ⟨p0, p1, p2, p3, p4⟩ := hP1.cells
  have b1 : w.heap.size ≠ mb := by have := mb_lt hA; omega
  have b2 : w.heap.size ≠ cb := by have := cb_lt hA; omega
  have HW := Lib.hid hW
  have HK0 := Lib.hid hK0
  have HB := Lib.hid hb
  clear hW hK0 hb k0 k1 k2 hA hP hP1
  go_enter Try.func69, Try.ntmps69
  go_wp2_with fail
  rw [← HW.out]
  refine start_ (n := 12) (S := fun w' => w' = W.drewN 1) (ds := [6]) #[false, false, false, false, false, false, false, false, false, false, false, false] rfl rfl rfl rfl ?_
  intro hS
  refine take_ (i := 0) (N := some 7) (v := ?_) (a' := ?_) #[true, false, false, false, false, false, false, false, false, false, false, false] rfl rfl (by kernel_rfl) (fun _ _ _ h => h) (Or.inl ⟨by rfl, ?_⟩) hS ?_ ?_
  rotate_left
  · rintro w' rfl
    go_simp
    with_reducible rfl
  rotate_left
  · simp only [Act.put, List.setIfInBounds_toArray, List.set_cons_zero, List.set_cons_succ, i64_w, i32_w]
    rfl
  refine take_ (i := 1) (N := some 8) (v := ?_) (a' := ?_) #[true, true, false, false, false, false, false, false, false, false, false, false] rfl rfl (by kernel_rfl) (fun _ _ _ h => h) (Or.inl ⟨by rfl, ?_⟩) hS ?_ ?_
  rotate_left
  · rintro w' rfl
    go_simp
    with_reducible rfl
  rotate_left
  · simp only [Act.put, List.setIfInBounds_toArray, List.set_cons_zero, List.set_cons_succ, i64_w, i32_w]
    rfl
  refine take_ (i := 2) (N := some 9) (v := ?_) (a' := ?_) #[true, true, true, false, false, false, false, false, false, false, false, false] rfl rfl (by kernel_rfl) (fun _ _ _ h => h) (Or.inl ⟨by rfl, ?_⟩) hS ?_ ?_
  rotate_left
  · rintro w' rfl
    go_simp
    with_reducible rfl
  rotate_left
  · simp only [Act.put, List.setIfInBounds_toArray, List.set_cons_zero, List.set_cons_succ, i64_w, i32_w]
    rfl
  refine take_ (i := 3) (N := some 10) (v := ?_) (a' := ?_) #[true, true, true, true, false, false, false, false, false, false, false, false] rfl rfl (by kernel_rfl) (fun _ _ _ h => h) (Or.inl ⟨by rfl, ?_⟩) hS ?_ ?_
  rotate_left
  · rintro w' rfl
    go_simp
    with_reducible rfl
  rotate_left
  · simp only [Act.put, List.setIfInBounds_toArray, List.set_cons_zero, List.set_cons_succ, i64_w, i32_w]
    rfl
  refine take_ (i := 4) (N := some 11) (v := ?_) (a' := ?_) #[true, true, true, true, true, false, false, false, false, false, false, false] rfl rfl (by kernel_rfl) (fun _ _ _ h => h) (Or.inl ⟨by rfl, ?_⟩) hS ?_ ?_
  rotate_left
  · rintro w' rfl
    go_simp
    with_reducible rfl
  rotate_left
  · simp only [Act.put, List.setIfInBounds_toArray, List.set_cons_zero, List.set_cons_succ, i64_w, i32_w]
    rfl
  refine take_ (i := 5) (N := some 12) (v := ?_) (a' := ?_) #[true, true, true, true, true, true, false, false, false, false, false, false] rfl rfl (by kernel_rfl) (fun _ _ _ h => h) (Or.inl ⟨by rfl, ?_⟩) hS ?_ ?_
  rotate_left
  · rintro w' rfl
    go_simp
    with_reducible rfl
  rotate_left
  · simp only [Act.put, List.setIfInBounds_toArray, List.set_cons_zero, List.set_cons_succ, i64_w, i32_w]
    rfl
  refine last_ (i := 6) (N := some 13) #[true, true, true, true, true, true, true, false, false, false, false, false] rfl rfl (by kernel_rfl) (by decide) (fun K hK => ?_)
  refine goes_ Try.func70 (by kernel_rfl) rfl #[ptr mb, .int .i64 p, .int .i64 b] (by rfl) rfl rfl (by (try simp only [List.map_toArray, List.map_cons, List.map_nil]); rfl) ?_
  refine (Reap_calls (hA1.drewN 1) p b).mono ?_
  rw [HY.out]
  rintro e W' ⟨rfl, hA', hF⟩
  refine ⟨_, rfl, ?_⟩
  refine hK.out _ _ ?_
  refine norm_ (a' := ?_) ?_ ?_
  rotate_left
  · simp only [Act.put, List.setIfInBounds_toArray, List.set_cons_zero, List.set_cons_succ, i64_w, i32_w]
    rfl
  refine pure_ (i := 7) (N := some 6) (v := ?_) (a' := ?_) #[true, true, true, true, true, true, true, true, false, false, false, false] rfl rfl (by kernel_rfl) (fun _ _ _ h => h) (Or.inl ⟨by rfl, ?_⟩) ?_ ?_
  rotate_left
  · intro w'
    go_simp
    with_reducible rfl
  rotate_left
  · simp only [Act.put, List.setIfInBounds_toArray, List.set_cons_zero, List.set_cons_succ, i64_w, i32_w]
    rfl
  refine pure_ (i := 8) (N := some 14) (v := ?_) (a' := ?_) #[true, true, true, true, true, true, true, true, true, false, false, false] rfl rfl (by kernel_rfl) (fun _ _ _ h => h) (Or.inl ⟨by rfl, ?_⟩) ?_ ?_
  rotate_left
  · intro w'
    go_simp
    with_reducible rfl
  rotate_left
  · simp only [Act.put, List.setIfInBounds_toArray, List.set_cons_zero, List.set_cons_succ, i64_w, i32_w]
    rfl
  refine pure_ (i := 9) (N := some 15) (v := ?_) (a' := ?_) #[true, true, true, true, true, true, true, true, true, true, false, false] rfl rfl (by kernel_rfl) (fun _ _ _ h => h) (Or.inl ⟨by rfl, ?_⟩) ?_ ?_
  rotate_left
  · intro w'
    go_simp
    with_reducible rfl
  rotate_left
  · simp only [Act.put, List.setIfInBounds_toArray, List.set_cons_zero, List.set_cons_succ, i64_w, i32_w]
    rfl
  refine pure_ (i := 10) (N := some 4) (v := ?_) (a' := ?_) #[true, true, true, true, true, true, true, true, true, true, true, false] rfl rfl (by kernel_rfl) (fun _ _ _ h => h) (Or.inl ⟨by rfl, ?_⟩) ?_ ?_
  rotate_left
  · intro w'
    go_simp
    with_reducible rfl
  rotate_left
  · simp only [Act.put, List.setIfInBounds_toArray, List.set_cons_zero, List.set_cons_succ, i64_w, i32_w]
    rfl
  refine pure_ (i := 11) (N := some 5) (v := ?_) (a' := ?_) #[true, true, true, true, true, true, true, true, true, true, true, true] rfl rfl (by kernel_rfl) (fun _ _ _ h => h) (Or.inl ⟨by rfl, ?_⟩) ?_ ?_
  rotate_left
  · intro w'
    go_simp
    with_reducible rfl
  rotate_left
  · simp only [Act.put, List.setIfInBounds_toArray, List.set_cons_zero, List.set_cons_succ, i64_w, i32_w]
    rfl
  refine done_ (by kernel_rfl) ?_
  all_goals
    have hK2 := (hF.block _ (blk_lt (show (W.drewN 1).heap[w.heap.size]? = _ from HK0.out)) b1 b2).trans (show (W.drewN 1).heap[w.heap.size]? = _ from HK0.out)
    have HF2 := Lib.hid ((Fr.of_below HB.out mb cb).trans ((Fr.of_below (pw_below_drewN (Below.refl _ _) 1) mb cb).trans hF))
    have HA := Lib.hid hA'
    obtain ⟨s0, s1, s2, s3⟩ := box4 hK2
    have z0 := blk_frozen hK2 0
    have z1 := blk_frozen hK2 1
    have z2 := blk_frozen hK2 2
    have z3 := blk_frozen hK2 3
    have HK2 := Lib.hid hK2
    clear hK2 hF hA' hA1 p0 p1 p2 p3 p4 x0 x1 x2
    go_wp2_with fail
    have hk := blk4 HK2.out .nilIface (.int .i64 0) (.bool y1) (.int .i64 y2)
    obtain ⟨u0, u1, u2, u3⟩ := box4 hk
    have ho := only4 W' w.heap.size .nilIface (.int .i64 0) (.bool y1) (.int .i64 y2)
    have FIN := Lib.hid (show Ends w mb cb (ans .nilIface 0 y1 y2) M1 (.returned (ans .nilIface 0 y1 y2)) _ from ⟨rfl, HA.out.only ho (Ne.symm b1) (Ne.symm b2), HF2.out.only ho (Nat.le_refl _)⟩)
    clear ho hk s0 s1 s2 s3 z0 z1 z2 z3
    exact bodyPost_ret (v := ans .nilIface 0 y1 y2) (by simp [results, Try.results69, go_sem, u0, u1, u2, u3]) rfl FIN.out
set_option maxHeartbeats 1600000 in
set_option maxRecDepth 100000 in
def QReap (p b : Int) : M → M × Ans := fun m : M => ((m.reap p b).1, (⟨.nilIface, 0, (m.reap p b).2.1, (m.reap p b).2.2⟩ : Ans))
def RReap (a : Ans) : Value := .tuple #[.bool a.ok, .int .i64 a.e]
end
end Go.Proofs.Ythgbgflpjggpmaa.Mem
