/- RegFull, by hand: where there is no room for a register no cell is left behind. -/
import Derived.Test.YtahnmklofgnagaaAwake15
import Derived.IntWalk
namespace Go.Proofs.Ytahnmklofgnagaa.Mem
open Go.RowKit Go.Proofs.YtahnmklofgnagaaW.PrintWords Go.Proofs.YtahnmklofgnagaaW.PrintLast Go.Proofs.Ytahnmklofgnagaa.Tags
set_option linter.unusedVariables false
set_option linter.unusedSimpArgs false
theorem u8_in {a : Int} (h : (Lit.int .u8 a).wf = true) : 0 ≤ a ∧ a < 256 := by
  have h' : 0 ≤ a ∧ a ≤ 255 := by simpa [Lit.wf, IntKind.min, IntKind.max, IntKind.signed, IntKind.bits] using h
  omega
/-- What a register's making comes to, in a memory of r cells. -/
def regOk (r a b : Nat) : Bool := let x := (M.new r).reg a b; if r < a + b then x.2.2.2 == 3 && x.1.live == 0 && x.2.1.length == 0 && x.1.cells.length == r else x.2.2.2 == 0 && x.1.live == ((a + b : Nat) : Int) && x.2.1.length == a && x.2.2.1.length == b && x.1.cells.length == r
theorem regOk_all : ((List.range 20).all fun r => (List.range 12).all fun a => (List.range 12).all fun b => regOk (r + 1) (a + 1) b) = true := by kernel_rfl
theorem regOk_of {r a b : Nat} (hr : r < 20) (ha : a < 12) (hb : b < 12) : regOk (r + 1) (a + 1) b = true := by
  have h1 := List.all_eq_true.1 regOk_all r (List.mem_range.2 hr)
  have h2 := List.all_eq_true.1 h1 a (List.mem_range.2 ha)
  exact List.all_eq_true.1 h2 b (List.mem_range.2 hb)
theorem reg_full {r a b : Nat} (hr : r < 20) (ha : a < 12) (hb : b < 12) (h : r + 1 < a + 1 + b) : ∃ M1 ss, (M.new (r + 1)).reg (a + 1) b = (M1, [], ss, 3) ∧ M1.live = 0 ∧ M1.cells.length = r + 1 := by
  have k := regOk_of hr ha hb
  unfold regOk at k
  obtain ⟨M1, ts, ss, e, hx⟩ : ∃ M1 ts ss e, (M.new (r + 1)).reg (a + 1) b = (M1, ts, ss, e) := ⟨_, _, _, _, rfl⟩
  rw [hx] at k
  simp only [if_pos h, Bool.and_eq_true, beq_iff_eq] at k
  obtain ⟨⟨⟨k1, k2⟩, k3⟩, k4⟩ := k
  have k3' := List.length_eq_zero_iff.1 k3
  subst k1 k3'
  exact ⟨M1, ss, hx, k2, k4⟩
theorem reg_room {r a b : Nat} (hr : r < 20) (ha : a < 12) (hb : b < 12) (h : ¬ r + 1 < a + 1 + b) : ∃ M1 ts ss, (M.new (r + 1)).reg (a + 1) b = (M1, ts, ss, 0) ∧ M1.live = ((a + 1 + b : Nat) : Int) ∧ ts.length = a + 1 ∧ ss.length = b ∧ M1.cells.length = r + 1 := by
  have k := regOk_of hr ha hb
  unfold regOk at k
  obtain ⟨M1, ts, ss, e, hx⟩ : ∃ M1 ts ss e, (M.new (r + 1)).reg (a + 1) b = (M1, ts, ss, e) := ⟨_, _, _, _, rfl⟩
  rw [hx] at k
  simp only [if_neg h, Bool.and_eq_true, beq_iff_eq] at k
  obtain ⟨⟨⟨⟨k1, k2⟩, k3⟩, k4⟩, k5⟩ := k
  subst k1
  exact ⟨M1, ts, ss, hx, k2, k3, k4, k5⟩
section
variable {w0 w w' : World} {pb mb cb : Nat} {m m' : M}
theorem live_q (h : At w mb cb m) {c : Int} (e : m.live = c) (n : Nat) : Calls Try.prog 36 #[ptr mb] (w.drewN n) fun e w'' => e = .returned (.int .i64 c) ∧ ∃ k, w'' = w.drewN k := by
  subst e
  exact (live_calls (h.drewN n)).mono fun _ _ ⟨h1, h2⟩ => ⟨h1, n, h2.symm⟩
theorem cells_q (h : At w mb cb m) {c : Nat} (e : m.cells.length = c) (n : Nat) : Calls Try.prog 49 #[ptr mb] (w.drewN n) fun e w'' => e = .returned (.int .i64 c) ∧ ∃ k, w'' = w.drewN k := by
  subst e
  exact (cells_calls (h.drewN n)).mono fun _ _ ⟨h1, h2⟩ => ⟨h1, n, h2.symm⟩
theorem live_w (hA : At w mb cb m) {v : Int} (hv : m.live = v) : Calls Try.prog 36 #[ptr mb] w fun e w' => e = .returned (.int .i64 v) ∧ w = w' := hv ▸ live_calls hA
set_option maxHeartbeats 6400000 in
set_option maxRecDepth 100000 in
theorem RegFull_fn {r a b : Nat} (hr : r < 20) (ha : a < 12) (hb : b < 12) (h : St w0 w pb mb cb (M.new (r + 1))) {ba bb bm : Nat} (k1 : w.heap[ba]? = some (.cells #[.int .i64 ((a + 1 : Nat) : Int)] 3 (0, 0))) (k2 : w.heap[bb]? = some (.cells #[.int .i64 b] 3 (0, 0))) (k3 : w.heap[bm]? = some (.cells #[ptr mb] 24 (0, 0))) :
    Calls Try.prog 47 #[ptr pb, .pointer (some ⟨ba, 0, none⟩), .pointer (some ⟨bb, 0, none⟩), .pointer (some ⟨bm, 0, none⟩)] w fun e w' => e = .returned (.iface 4 (.bool true)) ∧ Fr w w' mb cb := by
  have x1 := box1 k1
  have x2 := box1 k2
  go_enter Try.func47, Try.ntmps47
  go_wp2_with fail
  refine (regInit_calls h 7 (a + 1) b (by omega) (by omega) (by omega)).mono ?_
  by_cases hf : r + 1 < a + 1 + b
  · obtain ⟨M1, ss, hx, hlv, hcl⟩ := reg_full hr ha hb hf
    rw [hx]
    rintro e W1 ⟨A, ca, B, cc, rfl, hO1, hO2, h1, hF⟩
    have k1' := hF.blk h.A k1 (by decide) (by decide)
    have k2' := hF.blk h.A k2 (by decide) (by decide)
    have k3' := hF.blk h.A k3 (by decide) (by decide)
    have HLV := Lib.hid hlv
    have HCL := Lib.hid hcl
    clear x1 x2 k1 k2 k3 h hO1 hO2 hlv hcl hx
    obtain ⟨W2, hW2⟩ : ∃ W2 : World, W2 = W1.alloc (.cells #[.int .i64 0, .slice A 0 ca, .slice B ss.length cc] 80) := ⟨_, rfl⟩
    have hb2 : Below W1.heap.size W1 W2 := hW2 ▸ below_alloc (Below.refl _ _) _
    have hX : W2.heap[W1.heap.size]? = some (.cells #[.int .i64 0, .slice A 0 ca, .slice B ss.length cc] 80 (0, 0)) := hW2 ▸ blk_new _ _
    have x1 := box1 (blk_below k1' hb2)
    have x2 := box1 (blk_below k2' hb2)
    have x3 := box1 (blk_below k3' hb2)
    obtain ⟨r0, r1, r2⟩ := box3 hX
    have hA2 := h1.A.below hb2
    have HF2 := Lib.hid (hF.trans (Fr.of_below hb2 mb cb))
    have HW2 := Lib.hid hW2
    clear k1' k2' k3' hF hb2 hX hW2 h1
    have g1 : decide (((r + 1 : Nat) : Int) < ((a + 1 : Nat) : Int) + (b : Int)) = true := decide_eq_true (by omega)
    go_upto_region 2 with fail
    rw [← HW2.out]
    clear HW2
    go_quiet ((go_at_call 49; exact cells_q hA2 HCL.out _))
    go_wp2_with fail
    refine (live_w (hA2.drewN _) HLV.out).mono ?_
    rintro e w3 ⟨rfl, rfl⟩
    go_wp2_with fail
    go_ret
    exact ⟨rfl, HF2.out.drewN _⟩
  · obtain ⟨M1, ts, ss, hx, hlv, hts, hss, hcl⟩ := reg_room hr ha hb hf
    rw [hx]
    rintro e W1 ⟨A, ca, B, cc, rfl, hO1, hO2, h1, hF⟩
    have k1' := hF.blk h.A k1 (by decide) (by decide)
    have k2' := hF.blk h.A k2 (by decide) (by decide)
    have k3' := hF.blk h.A k3 (by decide) (by decide)
    have HLV := Lib.hid (hlv.trans (by omega : ((a + 1 + b : Nat) : Int) = (a : Int) + 1 + b))
    have HCL := Lib.hid hcl
    simp only [hts, hss]
    clear x1 x2 k1 k2 k3 h hO1 hO2 hlv hcl hx hts hss
    obtain ⟨W2, hW2⟩ : ∃ W2 : World, W2 = W1.alloc (.cells #[.int .i64 7, .slice A (a + 1) ca, .slice B b cc] 80) := ⟨_, rfl⟩
    have hb2 : Below W1.heap.size W1 W2 := hW2 ▸ below_alloc (Below.refl _ _) _
    have hX : W2.heap[W1.heap.size]? = some (.cells #[.int .i64 7, .slice A (a + 1) ca, .slice B b cc] 80 (0, 0)) := hW2 ▸ blk_new _ _
    have x1 := box1 (blk_below k1' hb2)
    have x2 := box1 (blk_below k2' hb2)
    have x3 := box1 (blk_below k3' hb2)
    obtain ⟨r0, r1, r2⟩ := box3 hX
    have hA2 := h1.A.below hb2
    have HF2 := Lib.hid (hF.trans (Fr.of_below hb2 mb cb))
    have HW2 := Lib.hid hW2
    clear k1' k2' k3' hF hb2 hX hW2 h1
    have g1 : decide (((r + 1 : Nat) : Int) < ((a + 1 : Nat) : Int) + (b : Int)) = false := decide_eq_false (by omega)
    have hw : IntKind.i64.wrap ((a : Int) + 1 + b) = (a : Int) + 1 + b := IntWalk.i64_in _ (by omega)
    go_upto_region 2 with fail
    rw [← HW2.out]
    clear HW2
    go_quiet ((go_at_call 49; exact cells_q hA2 HCL.out _))
    go_wp2_with fail
    have hA3 := hA2.drewN nq
    go_upto_region 4 with fail
    refine start_ (n := 31) (S := fun w' => w'.cell? ⟨ba, 0, none⟩ = some (.int .i64 ((a + 1 : Nat) : Int)) ∧ w'.cell? ⟨bb, 0, none⟩ = some (.int .i64 b) ∧ w'.cell? ⟨bm, 0, none⟩ = some (ptr mb) ∧ w'.cell? ⟨W1.heap.size, 0, none⟩ = some (.int .i64 7) ∧ w'.cell? ⟨W1.heap.size, 1, none⟩ = some (.slice A (a + 1) ca) ∧ w'.cell? ⟨W1.heap.size, 2, none⟩ = some (.slice B b cc)) (ds := []) #[false, false, false, false, false, false, false, false, false, false, false, false, false, false, false, false, false, false, false, false, false, false, false, false, false, false, false, false, false, false, false] rfl rfl rfl (⟨x1, x2, x3, r0, r1, r2⟩) ?_
    intro hHeld
    refine pure_ (i := 0) (N := some 35) (v := ?_) (a' := ?_) #[true, false, false, false, false, false, false, false, false, false, false, false, false, false, false, false, false, false, false, false, false, false, false, false, false, false, false, false, false, false, false] rfl rfl (by kernel_rfl) (fun _ _ _ h => h) (Or.inl ⟨by rfl, ?_⟩) ?_ ?_
    rotate_left
    · intro w'
      go_simp
      with_reducible rfl
    rotate_left
    · simp only [Act.put, List.setIfInBounds_toArray, List.set_cons_zero, List.set_cons_succ, i64_w, i32_w]
      rfl
    refine pure_ (i := 1) (N := some 36) (v := ?_) (a' := ?_) #[true, true, false, false, false, false, false, false, false, false, false, false, false, false, false, false, false, false, false, false, false, false, false, false, false, false, false, false, false, false, false] rfl rfl (by kernel_rfl) (fun _ _ _ h => h) (Or.inl ⟨by rfl, ?_⟩) ?_ ?_
    rotate_left
    · intro w'
      go_simp
      with_reducible rfl
    rotate_left
    · simp only [Act.put, List.setIfInBounds_toArray, List.set_cons_zero, List.set_cons_succ, i64_w, i32_w]
      rfl
    refine pure_ (i := 2) (N := some 37) (v := ?_) (a' := ?_) #[true, true, true, false, false, false, false, false, false, false, false, false, false, false, false, false, false, false, false, false, false, false, false, false, false, false, false, false, false, false, false] rfl rfl (by kernel_rfl) (fun _ _ _ h => h) (Or.inl ⟨by rfl, ?_⟩) ?_ ?_
    rotate_left
    · intro w'
      go_simp
      with_reducible rfl
    rotate_left
    · simp only [Act.put, List.setIfInBounds_toArray, List.set_cons_zero, List.set_cons_succ, i64_w, i32_w]
      rfl
    refine pure_ (i := 3) (N := some 38) (v := ?_) (a' := ?_) #[true, true, true, true, false, false, false, false, false, false, false, false, false, false, false, false, false, false, false, false, false, false, false, false, false, false, false, false, false, false, false] rfl rfl (by kernel_rfl) (fun _ _ _ h => h) (Or.inl ⟨by rfl, ?_⟩) ?_ ?_
    rotate_left
    · intro w'
      go_simp
      with_reducible rfl
    rotate_left
    · simp only [Act.put, List.setIfInBounds_toArray, List.set_cons_zero, List.set_cons_succ, i64_w, i32_w]
      rfl
    refine take_ (i := 4) (N := some 39) (v := ?_) (a' := ?_) #[true, true, true, true, true, false, false, false, false, false, false, false, false, false, false, false, false, false, false, false, false, false, false, false, false, false, false, false, false, false, false] rfl rfl (by kernel_rfl) (fun _ _ _ h => h) (Or.inl ⟨by rfl, ?_⟩) hHeld ?_ ?_
    rotate_left
    · rintro w' hHeld'
      have hHeld'' := hHeld'
      (try obtain ⟨r0_, r1_⟩ := hHeld')
      (try obtain ⟨r1_, r2_⟩ := r1_)
      (try obtain ⟨r2_, r3_⟩ := r2_)
      (try obtain ⟨r3_, r4_⟩ := r3_)
      (try obtain ⟨r4_, r5_⟩ := r4_)
      go_simp
      with_reducible rfl
    rotate_left
    · simp only [Act.put, List.setIfInBounds_toArray, List.set_cons_zero, List.set_cons_succ, i64_w, i32_w]
      rfl
    refine pure_ (i := 5) (N := some 40) (v := ?_) (a' := ?_) #[true, true, true, true, true, true, false, false, false, false, false, false, false, false, false, false, false, false, false, false, false, false, false, false, false, false, false, false, false, false, false] rfl rfl (by kernel_rfl) (fun _ _ _ h => h) (Or.inl ⟨by rfl, ?_⟩) ?_ ?_
    rotate_left
    · intro w'
      go_simp
      with_reducible rfl
    rotate_left
    · simp only [Act.put, List.setIfInBounds_toArray, List.set_cons_zero, List.set_cons_succ, i64_w, i32_w]
      rfl
    refine take_ (i := 6) (N := some 41) (v := ?_) (a' := ?_) #[true, true, true, true, true, true, true, false, false, false, false, false, false, false, false, false, false, false, false, false, false, false, false, false, false, false, false, false, false, false, false] rfl rfl (by kernel_rfl) (fun _ _ _ h => h) (Or.inl ⟨by rfl, ?_⟩) hHeld ?_ ?_
    rotate_left
    · rintro w' hHeld'
      have hHeld'' := hHeld'
      (try obtain ⟨r0_, r1_⟩ := hHeld')
      (try obtain ⟨r1_, r2_⟩ := r1_)
      (try obtain ⟨r2_, r3_⟩ := r2_)
      (try obtain ⟨r3_, r4_⟩ := r3_)
      (try obtain ⟨r4_, r5_⟩ := r4_)
      go_simp
      with_reducible rfl
    rotate_left
    · simp only [Act.put, List.setIfInBounds_toArray, List.set_cons_zero, List.set_cons_succ, i64_w, i32_w]
      rfl
    refine pure_ (i := 7) (N := some 42) (v := ?_) (a' := ?_) #[true, true, true, true, true, true, true, true, false, false, false, false, false, false, false, false, false, false, false, false, false, false, false, false, false, false, false, false, false, false, false] rfl rfl (by kernel_rfl) (fun _ _ _ h => h) (Or.inl ⟨by rfl, ?_⟩) ?_ ?_
    rotate_left
    · intro w'
      go_simp
      with_reducible rfl
    rotate_left
    · simp only [Act.put, List.setIfInBounds_toArray, List.set_cons_zero, List.set_cons_succ, i64_w, i32_w]
      rfl
    refine pure_ (i := 8) (N := some 43) (v := ?_) (a' := ?_) #[true, true, true, true, true, true, true, true, true, false, false, false, false, false, false, false, false, false, false, false, false, false, false, false, false, false, false, false, false, false, false] rfl rfl (by kernel_rfl) (fun _ _ _ h => h) (Or.inl ⟨by rfl, ?_⟩) ?_ ?_
    rotate_left
    · intro w'
      go_simp
      with_reducible rfl
    rotate_left
    · simp only [Act.put, List.setIfInBounds_toArray, List.set_cons_zero, List.set_cons_succ, i64_w, i32_w]
      rfl
    refine pure_ (i := 9) (N := some 44) (v := ?_) (a' := ?_) #[true, true, true, true, true, true, true, true, true, true, false, false, false, false, false, false, false, false, false, false, false, false, false, false, false, false, false, false, false, false, false] rfl rfl (by kernel_rfl) (fun _ _ _ h => h) (Or.inl ⟨by rfl, ?_⟩) ?_ ?_
    rotate_left
    · intro w'
      go_simp
      with_reducible rfl
    rotate_left
    · simp only [Act.put, List.setIfInBounds_toArray, List.set_cons_zero, List.set_cons_succ, i64_w, i32_w]
      rfl
    refine pure_ (i := 10) (N := some 45) (v := ?_) (a' := ?_) #[true, true, true, true, true, true, true, true, true, true, true, false, false, false, false, false, false, false, false, false, false, false, false, false, false, false, false, false, false, false, false] rfl rfl (by kernel_rfl) (fun _ _ _ h => h) (Or.inl ⟨by rfl, ?_⟩) ?_ ?_
    rotate_left
    · intro w'
      go_simp
      with_reducible rfl
    rotate_left
    · simp only [Act.put, List.setIfInBounds_toArray, List.set_cons_zero, List.set_cons_succ, i64_w, i32_w]
      rfl
    refine take_ (i := 11) (N := some 46) (v := ?_) (a' := ?_) #[true, true, true, true, true, true, true, true, true, true, true, true, false, false, false, false, false, false, false, false, false, false, false, false, false, false, false, false, false, false, false] rfl rfl (by kernel_rfl) (fun _ _ _ h => h) (Or.inl ⟨by rfl, ?_⟩) hHeld ?_ ?_
    rotate_left
    · rintro w' hHeld'
      have hHeld'' := hHeld'
      (try obtain ⟨r0_, r1_⟩ := hHeld')
      (try obtain ⟨r1_, r2_⟩ := r1_)
      (try obtain ⟨r2_, r3_⟩ := r2_)
      (try obtain ⟨r3_, r4_⟩ := r3_)
      (try obtain ⟨r4_, r5_⟩ := r4_)
      go_simp
      with_reducible rfl
    rotate_left
    · simp only [Act.put, List.setIfInBounds_toArray, List.set_cons_zero, List.set_cons_succ, i64_w, i32_w]
      rfl
    refine pure_ (i := 12) (N := some 47) (v := ?_) (a' := ?_) #[true, true, true, true, true, true, true, true, true, true, true, true, true, false, false, false, false, false, false, false, false, false, false, false, false, false, false, false, false, false, false] rfl rfl (by kernel_rfl) (fun _ _ _ h => h) (Or.inl ⟨by rfl, ?_⟩) ?_ ?_
    rotate_left
    · intro w'
      go_simp
      with_reducible rfl
    rotate_left
    · simp only [Act.put, List.setIfInBounds_toArray, List.set_cons_zero, List.set_cons_succ, i64_w, i32_w]
      rfl
    refine take_ (i := 13) (N := some 48) (v := ?_) (a' := ?_) #[true, true, true, true, true, true, true, true, true, true, true, true, true, true, false, false, false, false, false, false, false, false, false, false, false, false, false, false, false, false, false] rfl rfl (by kernel_rfl) (fun _ _ _ h => h) (Or.inl ⟨by rfl, ?_⟩) hHeld ?_ ?_
    rotate_left
    · rintro w' hHeld'
      have hHeld'' := hHeld'
      (try obtain ⟨r0_, r1_⟩ := hHeld')
      (try obtain ⟨r1_, r2_⟩ := r1_)
      (try obtain ⟨r2_, r3_⟩ := r2_)
      (try obtain ⟨r3_, r4_⟩ := r3_)
      (try obtain ⟨r4_, r5_⟩ := r4_)
      go_simp
      with_reducible rfl
    rotate_left
    · simp only [Act.put, List.setIfInBounds_toArray, List.set_cons_zero, List.set_cons_succ, i64_w, i32_w]
      rfl
    refine pure_ (i := 14) (N := some 49) (v := ?_) (a' := ?_) #[true, true, true, true, true, true, true, true, true, true, true, true, true, true, true, false, false, false, false, false, false, false, false, false, false, false, false, false, false, false, false] rfl rfl (by kernel_rfl) (fun _ _ _ h => h) (Or.inl ⟨by rfl, ?_⟩) ?_ ?_
    rotate_left
    · intro w'
      go_simp
      with_reducible rfl
    rotate_left
    · simp only [Act.put, List.setIfInBounds_toArray, List.set_cons_zero, List.set_cons_succ, i64_w, i32_w]
      rfl
    refine pure_ (i := 15) (N := some 50) (v := ?_) (a' := ?_) #[true, true, true, true, true, true, true, true, true, true, true, true, true, true, true, true, false, false, false, false, false, false, false, false, false, false, false, false, false, false, false] rfl rfl (by kernel_rfl) (fun _ _ _ h => h) (Or.inl ⟨by rfl, ?_⟩) ?_ ?_
    rotate_left
    · intro w'
      go_simp
      with_reducible rfl
    rotate_left
    · simp only [Act.put, List.setIfInBounds_toArray, List.set_cons_zero, List.set_cons_succ, i64_w, i32_w]
      rfl
    refine pure_ (i := 16) (N := some 51) (v := ?_) (a' := ?_) #[true, true, true, true, true, true, true, true, true, true, true, true, true, true, true, true, true, false, false, false, false, false, false, false, false, false, false, false, false, false, false] rfl rfl (by kernel_rfl) (fun _ _ _ h => h) (Or.inl ⟨by rfl, ?_⟩) ?_ ?_
    rotate_left
    · intro w'
      go_simp
      with_reducible rfl
    rotate_left
    · simp only [Act.put, List.setIfInBounds_toArray, List.set_cons_zero, List.set_cons_succ, i64_w, i32_w]
      rfl
    refine pure_ (i := 17) (N := some 52) (v := ?_) (a' := ?_) #[true, true, true, true, true, true, true, true, true, true, true, true, true, true, true, true, true, true, false, false, false, false, false, false, false, false, false, false, false, false, false] rfl rfl (by kernel_rfl) (fun _ _ _ h => h) (Or.inl ⟨by rfl, ?_⟩) ?_ ?_
    rotate_left
    · intro w'
      go_simp
      with_reducible rfl
    rotate_left
    · simp only [Act.put, List.setIfInBounds_toArray, List.set_cons_zero, List.set_cons_succ, i64_w, i32_w]
      rfl
    refine take_ (i := 18) (N := some 53) (v := ?_) (a' := ?_) #[true, true, true, true, true, true, true, true, true, true, true, true, true, true, true, true, true, true, true, false, false, false, false, false, false, false, false, false, false, false, false] rfl rfl (by kernel_rfl) (fun _ _ _ h => h) (Or.inl ⟨by rfl, ?_⟩) hHeld ?_ ?_
    rotate_left
    · rintro w' hHeld'
      have hHeld'' := hHeld'
      (try obtain ⟨r0_, r1_⟩ := hHeld')
      (try obtain ⟨r1_, r2_⟩ := r1_)
      (try obtain ⟨r2_, r3_⟩ := r2_)
      (try obtain ⟨r3_, r4_⟩ := r3_)
      (try obtain ⟨r4_, r5_⟩ := r4_)
      go_simp
      with_reducible rfl
    rotate_left
    · simp only [Act.put, List.setIfInBounds_toArray, List.set_cons_zero, List.set_cons_succ, i64_w, i32_w]
      rfl
    refine pure_ (i := 19) (N := some 54) (v := ?_) (a' := ?_) #[true, true, true, true, true, true, true, true, true, true, true, true, true, true, true, true, true, true, true, true, false, false, false, false, false, false, false, false, false, false, false] rfl rfl (by kernel_rfl) (fun _ _ _ h => h) (Or.inl ⟨by rfl, ?_⟩) ?_ ?_
    rotate_left
    · intro w'
      go_simp
      with_reducible rfl
    rotate_left
    · simp only [Act.put, List.setIfInBounds_toArray, List.set_cons_zero, List.set_cons_succ, i64_w, i32_w]
      rfl
    refine pure_ (i := 20) (N := some 55) (v := ?_) (a' := ?_) #[true, true, true, true, true, true, true, true, true, true, true, true, true, true, true, true, true, true, true, true, true, false, false, false, false, false, false, false, false, false, false] rfl rfl (by kernel_rfl) (fun _ _ _ h => h) (Or.inl ⟨by rfl, ?_⟩) ?_ ?_
    rotate_left
    · intro w'
      go_simp
      with_reducible rfl
    rotate_left
    · simp only [Act.put, List.setIfInBounds_toArray, List.set_cons_zero, List.set_cons_succ, i64_w, i32_w]
      rfl
    refine pure_ (i := 21) (N := some 56) (v := ?_) (a' := ?_) #[true, true, true, true, true, true, true, true, true, true, true, true, true, true, true, true, true, true, true, true, true, true, false, false, false, false, false, false, false, false, false] rfl rfl (by kernel_rfl) (fun _ _ _ h => h) (Or.inl ⟨by rfl, ?_⟩) ?_ ?_
    rotate_left
    · intro w'
      go_simp
      with_reducible rfl
    rotate_left
    · simp only [Act.put, List.setIfInBounds_toArray, List.set_cons_zero, List.set_cons_succ, i64_w, i32_w]
      rfl
    refine take_ (i := 22) (N := some 57) (v := ?_) (a' := ?_) #[true, true, true, true, true, true, true, true, true, true, true, true, true, true, true, true, true, true, true, true, true, true, true, false, false, false, false, false, false, false, false] rfl rfl (by kernel_rfl) (fun _ _ _ h => h) (Or.inl ⟨by rfl, ?_⟩) hHeld ?_ ?_
    rotate_left
    · rintro w' hHeld'
      have hHeld'' := hHeld'
      (try obtain ⟨r0_, r1_⟩ := hHeld')
      (try obtain ⟨r1_, r2_⟩ := r1_)
      (try obtain ⟨r2_, r3_⟩ := r2_)
      (try obtain ⟨r3_, r4_⟩ := r3_)
      (try obtain ⟨r4_, r5_⟩ := r4_)
      go_simp
      with_reducible rfl
    rotate_left
    · simp only [Act.put, List.setIfInBounds_toArray, List.set_cons_zero, List.set_cons_succ, i64_w, i32_w]
      rfl
    refine take_ (i := 24) (N := some 59) (v := ?_) (a' := ?_) #[true, true, true, true, true, true, true, true, true, true, true, true, true, true, true, true, true, true, true, true, true, true, true, false, true, false, false, false, false, false, false] rfl rfl (by kernel_rfl) (fun _ _ _ h => h) (Or.inl ⟨by rfl, ?_⟩) hHeld ?_ ?_
    rotate_left
    · rintro w' hHeld'
      have hHeld'' := hHeld'
      (try obtain ⟨r0_, r1_⟩ := hHeld')
      (try obtain ⟨r1_, r2_⟩ := r1_)
      (try obtain ⟨r2_, r3_⟩ := r2_)
      (try obtain ⟨r3_, r4_⟩ := r3_)
      (try obtain ⟨r4_, r5_⟩ := r4_)
      go_simp
      with_reducible rfl
    rotate_left
    · simp only [Act.put, List.setIfInBounds_toArray, List.set_cons_zero, List.set_cons_succ, i64_w, i32_w]
      rfl
    refine take_ (i := 25) (N := some 60) (v := ?_) (a' := ?_) #[true, true, true, true, true, true, true, true, true, true, true, true, true, true, true, true, true, true, true, true, true, true, true, false, true, true, false, false, false, false, false] rfl rfl (by kernel_rfl) (fun _ _ _ h => h) (Or.inl ⟨by rfl, ?_⟩) hHeld ?_ ?_
    rotate_left
    · rintro w' hHeld'
      have hHeld'' := hHeld'
      (try obtain ⟨r0_, r1_⟩ := hHeld')
      (try obtain ⟨r1_, r2_⟩ := r1_)
      (try obtain ⟨r2_, r3_⟩ := r2_)
      (try obtain ⟨r3_, r4_⟩ := r3_)
      (try obtain ⟨r4_, r5_⟩ := r4_)
      go_simp
      with_reducible rfl
    rotate_left
    · simp only [Act.put, List.setIfInBounds_toArray, List.set_cons_zero, List.set_cons_succ, i64_w, i32_w]
      rfl
    refine pure_ (i := 26) (N := some 61) (v := ?_) (a' := ?_) #[true, true, true, true, true, true, true, true, true, true, true, true, true, true, true, true, true, true, true, true, true, true, true, false, true, true, true, false, false, false, false] rfl rfl (by kernel_rfl) (fun _ _ _ h => h) (Or.inl ⟨by rfl, ?_⟩) ?_ ?_
    rotate_left
    · intro w'
      go_simp
      with_reducible rfl
    rotate_left
    · simp only [Act.put, List.setIfInBounds_toArray, List.set_cons_zero, List.set_cons_succ, i64_w, i32_w]
      rfl
    refine one_ (i := 23) (N := some 58) #[true, true, true, true, true, true, true, true, true, true, true, true, true, true, true, true, true, true, true, true, true, true, true, true, true, true, true, false, false, false, false] rfl rfl (by kernel_rfl) (by decide) (fun K hSh => ?_)
    refine goes_ Try.func36 (by kernel_rfl) rfl #[ptr mb] (by rfl) rfl rfl (by (try simp only [List.map_toArray, List.map_cons, List.map_nil]); rfl) ?_
    refine (live_w (hA3.drewN 1) HLV.out).mono ?_
    rintro e w3 ⟨rfl, rfl⟩
    refine ⟨_, rfl, ?_⟩
    refine hSh.out _ _ hHeld ?_
    clear hHeld
    intro hHeld
    refine norm_ (a' := ?_) ?_ ?_
    rotate_left
    · simp only [Act.put, List.setIfInBounds_toArray, List.set_cons_zero, List.set_cons_succ, i64_w, i32_w]
      rfl
    refine pure_ (i := 27) (N := some 62) (v := ?_) (a' := ?_) #[true, true, true, true, true, true, true, true, true, true, true, true, true, true, true, true, true, true, true, true, true, true, true, true, true, true, true, true, false, false, false] rfl rfl (by kernel_rfl) (fun _ _ _ h => h) (Or.inl ⟨by rfl, ?_⟩) ?_ ?_
    rotate_left
    · intro w'
      go_simp
      with_reducible rfl
    rotate_left
    · simp only [Act.put, List.setIfInBounds_toArray, List.set_cons_zero, List.set_cons_succ, i64_w, i32_w]
      rfl
    refine pure_ (i := 28) (N := some 63) (v := ?_) (a' := ?_) #[true, true, true, true, true, true, true, true, true, true, true, true, true, true, true, true, true, true, true, true, true, true, true, true, true, true, true, true, true, false, false] rfl rfl (by kernel_rfl) (fun _ _ _ h => h) (Or.inl ⟨by rfl, ?_⟩) ?_ ?_
    rotate_left
    · intro w'
      go_simp
      with_reducible rfl
    rotate_left
    · simp only [Act.put, List.setIfInBounds_toArray, List.set_cons_zero, List.set_cons_succ, i64_w, i32_w]
      rfl
    refine pure_ (i := 29) (N := some 64) (v := ?_) (a' := ?_) #[true, true, true, true, true, true, true, true, true, true, true, true, true, true, true, true, true, true, true, true, true, true, true, true, true, true, true, true, true, true, false] rfl rfl (by kernel_rfl) (fun _ _ _ h => h) (Or.inl ⟨by rfl, ?_⟩) ?_ ?_
    rotate_left
    · intro w'
      go_simp
      with_reducible rfl
    rotate_left
    · simp only [Act.put, List.setIfInBounds_toArray, List.set_cons_zero, List.set_cons_succ, i64_w, i32_w]
      rfl
    refine pure_ (i := 30) (N := some 5) (v := ?_) (a' := ?_) #[true, true, true, true, true, true, true, true, true, true, true, true, true, true, true, true, true, true, true, true, true, true, true, true, true, true, true, true, true, true, true] rfl rfl (by kernel_rfl) (fun _ _ _ h => h) (Or.inl ⟨by rfl, ?_⟩) ?_ ?_
    rotate_left
    · intro w'
      go_simp
      with_reducible rfl
    rotate_left
    · simp only [Act.put, List.setIfInBounds_toArray, List.set_cons_zero, List.set_cons_succ, i64_w, i32_w]
      rfl
    refine done_ (by kernel_rfl) ?_
    go_wp2_with fail
    go_ret
    exact ⟨rfl, (HF2.out.drewN nq).drewN 1⟩
set_option maxHeartbeats 3200000 in
set_option maxRecDepth 100000 in
theorem RegFull_walk (x y z : Int) (hx0 : 0 ≤ x) (hx1 : x < 256) (hy0 : 0 ≤ y) (hy1 : y < 256) (hz0 : 0 ≤ z) (hz1 : z < 256) (w : World) : Calls Try.prog 8 #[.int .u8 x, .int .u8 y, .int .u8 z] w fun e w' => e = .returned (.bool true) ∧ Below w.heap.size w w' := by
  obtain ⟨r, hr⟩ : ∃ n : Nat, x % 20 = (n : Int) := ⟨(x % 20).toNat, by omega⟩
  obtain ⟨a, ha⟩ : ∃ n : Nat, y % 12 = (n : Int) := ⟨(y % 12).toNat, by omega⟩
  obtain ⟨b, hb⟩ : ∃ n : Nat, z % 12 = (n : Int) := ⟨(z % 12).toNat, by omega⟩
  have hr5 : r < 20 := by omega
  have ha5 : a < 12 := by omega
  have hb5 : b < 12 := by omega
  have HR := Lib.hid hr
  have HA := Lib.hid ha
  have HB := Lib.hid hb
  clear hr ha hb
  go_enter Try.func8, Try.ntmps8
  go_wp2_with fail
  refine (awake15_calls w).mono ?_
  rintro e w1 ⟨rfl, hB0⟩
  go_wp2_with fail
  rw [HR.out, show (1 + (r : Int)) = ((r + 1 : Nat) : Int) by omega]
  refine (New_calls (r + 1) w1 (by omega) (by omega)).mono ?_
  rintro e W1 ⟨rfl, hA1, hB1⟩
  obtain ⟨mb, hmb⟩ : ∃ b, b = w1.heap.size + 1 := ⟨_, rfl⟩
  obtain ⟨cb, hcb⟩ : ∃ b, b = w1.heap.size := ⟨_, rfl⟩
  rw [← hmb, ← hcb] at hA1
  rw [← hmb]
  have hs := hB0.size
  have hmb' : w.heap.size ≤ mb := by omega
  have hcb' : w.heap.size ≤ cb := by omega
  have hB2 := below_then hB0 hB0.size hB1
  clear hB0 hB1 hmb hcb
  obtain ⟨W2, hW2⟩ : ∃ W2 : World, W2 = W1.alloc (.cells #[ptr mb] 24) := ⟨_, rfl⟩
  have hbel : Below W1.heap.size W1 W2 := hW2 ▸ below_alloc (Below.refl _ _) _
  have kM : W2.heap[W1.heap.size]? = some (.cells #[ptr mb] 24 (0, 0)) := hW2 ▸ blk_new _ _
  have hA2 := hA1.below hbel
  have hB3 := below_then hB2 hB2.size hbel
  have x3 := box1 kM
  have HW2 := Lib.hid hW2
  clear hW2 hbel hA1 hB2
  go_upto_region 4 with fail
  rw [← HW2.out]
  clear HW2
  have hmf := makeFunc_run
  obtain ⟨W3, hW3⟩ : ∃ W3 : World, W3 = (W2.alloc (.cells #[.int .i64 (1 + y % 12)] 3)).alloc (.cells #[.int .i64 (z % 12)] 3) := ⟨_, rfl⟩
  have hbel : Below W2.heap.size W2 W3 := hW3 ▸ below_alloc (below_alloc (Below.refl _ _) _) _
  have kA : W3.heap[W2.heap.size]? = some (.cells #[.int .i64 ((a + 1 : Nat) : Int)] 3 (0, 0)) := by
    rw [show ((a + 1 : Nat) : Int) = 1 + y % 12 by rw [HA.out]; omega, hW3]
    exact blk_alloc (blk_new _ _) _
  have kB : W3.heap[W2.heap.size + 1]? = some (.cells #[.int .i64 b] 3 (0, 0)) := by
    have e : W2.heap.size + 1 = (W2.alloc (.cells #[.int .i64 (1 + y % 12)] 3)).heap.size := by simp
    rw [e, ← HB.out, hW3]
    exact blk_new _ _
  have kM3 := blk_below kM hbel
  have hA3 := hA2.below hbel
  have hB4 := below_then hB3 hB3.size hbel
  have HW3 := Lib.hid hW3
  have hA4 := hA3.alloc (port0 mb)
  have hP4 : PD (W3.alloc (port0 mb)) W3.heap.size mb := blk_new _ _
  have HD := Lib.hid (do3_calls (mb := mb) (fun args W => enters_ Try.func47 (by kernel_rfl) rfl args W) (RegFull_fn hr5 ha5 hb5 (St.refl hA4 hP4) (blk_alloc kA (port0 mb)) (blk_alloc kB (port0 mb)) (blk_alloc kM3 (port0 mb))))
  have x4 := box1 kM3
  have HB4 := Lib.hid hB4
  clear hW3 hbel kA kB kM kM3 hA2 hA3 hA4 hP4 hB3 hB4
  go_upto_region 7 with fail
  rw [← HW3.out]
  clear HW3 x3
  have hta := ta_bool true
  go_wp2_with fail
  refine HD.out.mono ?_
  rintro e W5 ⟨rfl, hF⟩
  have hF5 := (Fr.of_below (below_alloc (Below.refl W3.heap.size W3) (port0 mb)) mb cb).trans hF
  have HBF := Lib.hid (show Below w.heap.size w W5 from ⟨hF5.os.trans HB4.out.os, hF5.tape.trans HB4.out.tape, hF5.output.trans HB4.out.output, Nat.le_trans HB4.out.size hF5.size, fun k hk => (hF5.block k (by have := HB4.out.size; omega) (by omega) (by omega)).trans (HB4.out.block k hk)⟩)
  clear hF5 hF HD x4
  go_wp2_with fail
  go_ret
  exact ⟨rfl, HBF.out⟩
end
end Go.Proofs.Ytahnmklofgnagaa.Mem
