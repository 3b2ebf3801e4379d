/- What the laws of chapter 13 make: memory, does, told. -/
import Derived.Test.YthgbgflpjggpmaaStepLog
import Derived.Test.YthgbgflpjggpmaaSRefOne
namespace Go.Proofs.Ythgbgflpjggpmaa.Mem
open Go.RowKit Go.Proofs.YthgbgflpjggpmaaW.PrintWords Go.Proofs.YthgbgflpjggpmaaW.PrintLast Go.Proofs.Ythgbgflpjggpmaa.Tags
open Go.Proofs.Ythgbgflpjggpmaa.PStepAlone (S57 k57 z57 rd_T57)
set_option linter.unusedVariables false
set_option linter.unusedSimpArgs false
set_option maxHeartbeats 1600000 in
theorem memory_calls (a : Int) (ha : 0 ≤ a ∧ a ≤ 255) (n : Nat) (hn : (n : Int) = 1 + a % 60) (w : World) : Calls Try.prog 17 #[.int .u8 a] w fun e w' => e = .returned (.tuple #[ptr (w.heap.size + 1), .int .i64 n]) ∧ At w' (w.heap.size + 1) w.heap.size (M.new n) ∧ Below w.heap.size w w' := by
  have e1 : wrap64 (1 + (wrap64 a).tmod 60) = (n : Int) := by
    have e : wrap64 a = a := by unfold wrap64; omega
    rw [e, Int.tmod_eq_emod_of_nonneg ha.1]
    unfold wrap64
    omega
  have HN := Lib.hid (New_calls n w (by omega) (by omega))
  clear hn ha
  go_enter Try.func17, Try.ntmps17
  go_wp2_with fail
  (try rw [e1])
  refine HN.out.mono ?_
  rintro e w1 ⟨rfl, hA, hB⟩
  have HA := Lib.hid hA
  have HB := Lib.hid hB
  clear hA hB HN
  go_wp2_with fail
  (try rw [e1])
  go_ret2
  exact ⟨rfl, HA.out, HB.out⟩
theorem mkdoes_calls (s : Value) (hs : ∃ A n c, s = .slice A n c) (w : World) : Calls Try.prog 18 #[s] w fun e w' => e = .returned (.func (Fn.func 38) #[] #[.pointer (some ⟨w.heap.size, 0, none⟩)]) ∧ w'.heap[w.heap.size]? = some (.cells #[s] 41 (0, 0)) ∧ Below w.heap.size w w' := by
  obtain ⟨A, n, c, rfl⟩ := hs
  have hmf := makeFunc_run
  have hk := blk_new w (.cells #[.slice A n c] 41)
  have hb : Below w.heap.size w (w.alloc (.cells #[.slice A n c] 41)) := below_alloc (Below.refl _ _) _
  have HK := Lib.hid hk
  have HB := Lib.hid hb
  clear hk hb
  go_enter Try.func18, Try.ntmps18
  go_wp2
  go_ret
  exact ⟨rfl, HK.out, HB.out⟩
theorem ta_run (r : R5) (w : World) : (Instr.typeAssert (.iface 47 (.agg r.v)) 20 47 true).run Try.prog w = .ok (.tuple #[.agg r.v, .bool true]) w := by kernel_rfl
theorem ta_norun (w : World) : (Instr.typeAssert .nilIface 20 47 true).run Try.prog w = .ok (.tuple #[.agg r0.v, .bool false]) w := by kernel_rfl
set_option maxHeartbeats 1600000 in
set_option maxRecDepth 100000 in
theorem told_calls {w : World} {xb pb : Nat} {fv : Value} {steps : Int} {ended : Bool} {r : R5} (h : MG w xb pb fv (.iface 47 (.agg r.v)) steps ended) : Calls Try.prog 26 #[ptr xb] w fun e w' => e = .returned (.tuple #[.agg r.v, .bool true]) ∧ Below w.heap.size w w' := by
  obtain ⟨W, hW⟩ : ∃ W : World, W = w.alloc (.cells #[.int .i64 0, .int .i64 0, .int .i64 0, .int .i64 0, .int .i64 0] 47) := ⟨_, rfl⟩
  have hb : Below w.heap.size w W := hW ▸ below_alloc (Below.refl _ _) _
  have hk : W.heap[w.heap.size]? = some (.cells #[.int .i64 0, .int .i64 0, .int .i64 0, .int .i64 0, .int .i64 0] 47 (0, 0)) := hW ▸ blk_new _ _
  have HM := Lib.hid (h.below hb)
  have hta := ta_run r
  obtain ⟨ra, rt, rs, rl, rn⟩ := r
  simp only [R5.v] at hta HM ⊢
  have HW := Lib.hid hW
  obtain ⟨W2, hW2⟩ : ∃ y : World, y = W.alloc (.cells #[.int .i64 ra, .int .i64 rt, .int .i64 rs, .int .i64 rl, .int .i64 rn] 47) := ⟨_, rfl⟩
  have hb2 : Below W.heap.size W W2 := hW2 ▸ below_alloc (Below.refl _ _) _
  have hk2 : W2.heap[W.heap.size]? = some (.cells #[.int .i64 ra, .int .i64 rt, .int .i64 rs, .int .i64 rl, .int .i64 rn] 47 (0, 0)) := hW2 ▸ blk_new _ _
  have hk1 := blk_below hk hb2
  obtain ⟨x0, x1, x2, x3, x4⟩ := box5 hk2
  obtain ⟨y0, y1, y2, y3, y4⟩ := box5 hk1
  have z0 := blk_frozen hk1 0
  have z1 := blk_frozen hk1 1
  have z2 := blk_frozen hk1 2
  have z3 := blk_frozen hk1 3
  have z4 := blk_frozen hk1 4
  have hk3 := blk5 hk1 (.int .i64 ra) (.int .i64 rt) (.int .i64 rs) (.int .i64 rl) (.int .i64 rn)
  have HB := Lib.hid (Below.only (below_then hb hb.size hb2) (only5 W2 w.heap.size (.int .i64 ra) (.int .i64 rt) (.int .i64 rs) (.int .i64 rl) (.int .i64 rn)) (Nat.le_refl _))
  obtain ⟨u0, u1, u2, u3, u4⟩ := box5 hk3
  have HW2 := Lib.hid hW2
  clear hW hb hk h hW2 hb2 hk2 hk1 hk3
  go_enter Try.func26, Try.ntmps26
  go_upto_region 1 with fail
  rw [← HW.out]
  go_wp2_with fail
  refine (mout_calls HM.out).mono ?_
  rintro e w2 ⟨rfl, rfl⟩
  go_upto_region 2 with fail
  rw [← HW2.out]
  go_wp2_with fail
  exact bodyPost_ret (v := .tuple #[.agg #[.int .i64 ra, .int .i64 rt, .int .i64 rs, .int .i64 rl, .int .i64 rn], .bool true]) (by simp [results, Try.results26, go_sem, u0, u1, u2, u3, u4]) rfl ⟨rfl, HB.out⟩
set_option maxHeartbeats 1600000 in
set_option maxRecDepth 100000 in
theorem told_not {w : World} {xb pb : Nat} {fv : Value} {steps : Int} {ended : Bool} (h : MG w xb pb fv .nilIface steps ended) : Calls Try.prog 26 #[ptr xb] w fun e w' => e = .returned (.tuple #[.agg r0.v, .bool false]) ∧ Below w.heap.size w w' := by
  obtain ⟨W, hW⟩ : ∃ W : World, W = w.alloc (.cells #[.int .i64 0, .int .i64 0, .int .i64 0, .int .i64 0, .int .i64 0] 47) := ⟨_, rfl⟩
  have hb : Below w.heap.size w W := hW ▸ below_alloc (Below.refl _ _) _
  have hk : W.heap[w.heap.size]? = some (.cells #[.int .i64 0, .int .i64 0, .int .i64 0, .int .i64 0, .int .i64 0] 47 (0, 0)) := hW ▸ blk_new _ _
  have HM := Lib.hid (h.below hb)
  have hta := ta_norun
  simp only [R5.v, r0] at hta ⊢
  have HW := Lib.hid hW
  obtain ⟨W2, hW2⟩ : ∃ y : World, y = W.alloc (.cells #[.int .i64 0, .int .i64 0, .int .i64 0, .int .i64 0, .int .i64 0] 47) := ⟨_, rfl⟩
  have hb2 : Below W.heap.size W W2 := hW2 ▸ below_alloc (Below.refl _ _) _
  have hk2 : W2.heap[W.heap.size]? = some (.cells #[.int .i64 0, .int .i64 0, .int .i64 0, .int .i64 0, .int .i64 0] 47 (0, 0)) := hW2 ▸ blk_new _ _
  have hk1 := blk_below hk hb2
  obtain ⟨x0, x1, x2, x3, x4⟩ := box5 hk2
  obtain ⟨y0, y1, y2, y3, y4⟩ := box5 hk1
  have z0 := blk_frozen hk1 0
  have z1 := blk_frozen hk1 1
  have z2 := blk_frozen hk1 2
  have z3 := blk_frozen hk1 3
  have z4 := blk_frozen hk1 4
  have hk3 := blk5 hk1 (.int .i64 0) (.int .i64 0) (.int .i64 0) (.int .i64 0) (.int .i64 0)
  have HB := Lib.hid (Below.only (below_then hb hb.size hb2) (only5 W2 w.heap.size (.int .i64 0) (.int .i64 0) (.int .i64 0) (.int .i64 0) (.int .i64 0)) (Nat.le_refl _))
  obtain ⟨u0, u1, u2, u3, u4⟩ := box5 hk3
  have HW2 := Lib.hid hW2
  clear hW hb hk h hW2 hb2 hk2 hk1 hk3
  go_enter Try.func26, Try.ntmps26
  go_upto_region 1 with fail
  rw [← HW.out]
  go_wp2_with fail
  refine (mout_calls HM.out).mono ?_
  rintro e w2 ⟨rfl, rfl⟩
  go_upto_region 2 with fail
  rw [← HW2.out]
  go_wp2_with fail
  exact bodyPost_ret (v := .tuple #[.agg #[.int .i64 0, .int .i64 0, .int .i64 0, .int .i64 0, .int .i64 0], .bool false]) (by simp [results, Try.results26, go_sem, u0, u1, u2, u3, u4]) rfl ⟨rfl, HB.out⟩
end Go.Proofs.Ythgbgflpjggpmaa.Mem
