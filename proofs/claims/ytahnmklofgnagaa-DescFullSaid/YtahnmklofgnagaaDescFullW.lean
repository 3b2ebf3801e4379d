/- DescFull, by hand: where there is no room a descriptor isn't made, and no cell is left behind. -/
import Derived.Test.YtahnmklofgnagaaAwake14
namespace Go.Proofs.Ytahnmklofgnagaa.Mem
open Go.RowKit Go.Proofs.YtahnmklofgnagaaW.PrintWords Go.Proofs.YtahnmklofgnagaaW.PrintLast Go.Proofs.Ytahnmklofgnagaa.Tags
set_option linter.unusedVariables false
set_option linter.unusedSimpArgs false
theorem u8_of {a : Int} (h : (Lit.int .u8 a).wf = true) : 0 ≤ a ∧ a < 256 := by
  have h' : 0 ≤ a ∧ a ≤ 255 := by simpa [Lit.wf, IntKind.min, IntKind.max, IntKind.signed, IntKind.bits] using h
  omega
structure Act where
  d : Int
  p : Int
  n : Int
  m : Int
  raw : Bool
/-- Behind so many reapings, the places from the first on. -/
def M.reapN (m : M) (b : Int) : Nat → M
  | 0 => m
  | k + 1 => ((m.reapN b k).reap k b).1
theorem M.reap_len (m : M) (p b : Int) : (m.reap p b).1.cells.length = m.cells.length := by
  unfold M.reap
  split
  · rfl
  · split
    · rfl
    · simp [M.freed, M.put, M.tick]
theorem M.reapN_len (m : M) (b : Int) : ∀ k, (m.reapN b k).cells.length = m.cells.length
  | 0 => rfl
  | k + 1 => (M.reap_len _ _ _).trans (M.reapN_len m b k)
namespace Fu
def d1 : D := ⟨1, 0, 0, none, 0, 0⟩
def L (n : Nat) : M := ((M.new (3 + n)).laid 1 D.z).1
def M0 (n : Nat) : M := ((L n).alloc (number 2)).1
def X1 (n : Nat) : M := ((M0 n).laid 0 d1).1
def M1 (n : Nat) : M := ((M0 n).laid 0 d1).1
def M2 (n : Nat) : M := ((M1 n).undo 5).1
def M3 (n : Nat) : M := ((M2 n).laid 0 d1).1
def M4 (n : Nat) : M := ((M3 n).drop 65541 4).1
def M5 (n : Nat) : M := (M4 n).reapN 4 (3 + n)
def M6 (n : Nat) : M := (M5 n).reapN 5 (3 + n)
def M7 (n : Nat) : M := ((M6 n).dload 65541).1
theorem a0_0 : (M.new (3 + 0)).laid 1 D.z = (L 0, 2, 0) := by kernel_rfl
theorem a0_1 : (M.new (3 + 1)).laid 1 D.z = (L 1, 2, 0) := by kernel_rfl
theorem a0_2 : (M.new (3 + 2)).laid 1 D.z = (L 2, 2, 0) := by kernel_rfl
theorem a0_3 : (M.new (3 + 3)).laid 1 D.z = (L 3, 2, 0) := by kernel_rfl
theorem a0_4 : (M.new (3 + 4)).laid 1 D.z = (L 4, 2, 0) := by kernel_rfl
theorem a0_5 : (M.new (3 + 5)).laid 1 D.z = (L 5, 2, 0) := by kernel_rfl
theorem a0 : ∀ n, n ≤ 5 → (M.new (3 + n)).laid 1 D.z = (L n, 2, 0)
  | 0, _ => a0_0
  | 1, _ => a0_1
  | 2, _ => a0_2
  | 3, _ => a0_3
  | 4, _ => a0_4
  | 5, _ => a0_5
  | _ + 6, h => absurd h (by omega)
theorem a1_0 : (L 0).alloc (number 2) = (M0 0, 3, 0) := by kernel_rfl
theorem a1_1 : (L 1).alloc (number 2) = (M0 1, 3, 0) := by kernel_rfl
theorem a1_2 : (L 2).alloc (number 2) = (M0 2, 3, 0) := by kernel_rfl
theorem a1_3 : (L 3).alloc (number 2) = (M0 3, 3, 0) := by kernel_rfl
theorem a1_4 : (L 4).alloc (number 2) = (M0 4, 3, 0) := by kernel_rfl
theorem a1_5 : (L 5).alloc (number 2) = (M0 5, 3, 0) := by kernel_rfl
theorem a1 : ∀ n, n ≤ 5 → (L n).alloc (number 2) = (M0 n, 3, 0)
  | 0, _ => a1_0
  | 1, _ => a1_1
  | 2, _ => a1_2
  | 3, _ => a1_3
  | 4, _ => a1_4
  | 5, _ => a1_5
  | _ + 6, h => absurd h (by omega)
theorem v0_0 : (M0 0).live = 3 := by kernel_rfl
theorem v0_1 : (M0 1).live = 3 := by kernel_rfl
theorem v0_2 : (M0 2).live = 3 := by kernel_rfl
theorem v0_3 : (M0 3).live = 3 := by kernel_rfl
theorem v0_4 : (M0 4).live = 3 := by kernel_rfl
theorem v0_5 : (M0 5).live = 3 := by kernel_rfl
theorem v0 : ∀ n, n ≤ 5 → (M0 n).live = 3
  | 0, _ => v0_0
  | 1, _ => v0_1
  | 2, _ => v0_2
  | 3, _ => v0_3
  | 4, _ => v0_4
  | 5, _ => v0_5
  | _ + 6, h => absurd h (by omega)
theorem x1_0 : (M0 0).laid 0 ⟨1, 0, 0, none, 0, 0⟩ = (X1 0, 0, 3) := by kernel_rfl
theorem x1_1 : (M0 1).laid 0 ⟨1, 0, 0, none, 0, 0⟩ = (X1 1, 0, 3) := by kernel_rfl
theorem x1 : ∀ n, n ≤ 1 → (M0 n).laid 0 ⟨1, 0, 0, none, 0, 0⟩ = (X1 n, 0, 3)
  | 0, _ => x1_0
  | 1, _ => x1_1
  | _ + 2, h => absurd h (by omega)
theorem vx_0 : (X1 0).live = 3 := by kernel_rfl
theorem vx_1 : (X1 1).live = 3 := by kernel_rfl
theorem vx : ∀ n, n ≤ 1 → (X1 n).live = 3
  | 0, _ => vx_0
  | 1, _ => vx_1
  | _ + 2, h => absurd h (by omega)
theorem e1_2 : (M0 2).laid 0 ⟨1, 0, 0, none, 0, 0⟩ = (M1 2, 5, 0) := by kernel_rfl
theorem e1_3 : (M0 3).laid 0 ⟨1, 0, 0, none, 0, 0⟩ = (M1 3, 5, 0) := by kernel_rfl
theorem e1_4 : (M0 4).laid 0 ⟨1, 0, 0, none, 0, 0⟩ = (M1 4, 5, 0) := by kernel_rfl
theorem e1_5 : (M0 5).laid 0 ⟨1, 0, 0, none, 0, 0⟩ = (M1 5, 5, 0) := by kernel_rfl
theorem e1 : ∀ n, 2 ≤ n → n ≤ 5 → (M0 n).laid 0 ⟨1, 0, 0, none, 0, 0⟩ = (M1 n, 5, 0)
  | 2, _, _ => e1_2
  | 3, _, _ => e1_3
  | 4, _, _ => e1_4
  | 5, _, _ => e1_5
  | 0, h, _ | 1, h, _ => absurd h (by decide)
  | _ + 6, _, h => absurd h (by omega)
theorem v1_2 : (M1 2).live = 5 := by kernel_rfl
theorem v1_3 : (M1 3).live = 5 := by kernel_rfl
theorem v1_4 : (M1 4).live = 5 := by kernel_rfl
theorem v1_5 : (M1 5).live = 5 := by kernel_rfl
theorem v1 : ∀ n, 2 ≤ n → n ≤ 5 → (M1 n).live = 5
  | 2, _, _ => v1_2
  | 3, _, _ => v1_3
  | 4, _, _ => v1_4
  | 5, _, _ => v1_5
  | 0, h, _ | 1, h, _ => absurd h (by decide)
  | _ + 6, _, h => absurd h (by omega)
theorem o1_2 : (M1 2).okd = true := by kernel_rfl
theorem o1_3 : (M1 3).okd = true := by kernel_rfl
theorem o1_4 : (M1 4).okd = true := by kernel_rfl
theorem o1_5 : (M1 5).okd = true := by kernel_rfl
theorem o1 : ∀ n, 2 ≤ n → n ≤ 5 → (M1 n).okd = true
  | 2, _, _ => o1_2
  | 3, _, _ => o1_3
  | 4, _, _ => o1_4
  | 5, _, _ => o1_5
  | 0, h, _ | 1, h, _ => absurd h (by decide)
  | _ + 6, _, h => absurd h (by omega)
theorem e2_2 : (M1 2).undo 5 = (M2 2, 0) := by kernel_rfl
theorem e2_3 : (M1 3).undo 5 = (M2 3, 0) := by kernel_rfl
theorem e2_4 : (M1 4).undo 5 = (M2 4, 0) := by kernel_rfl
theorem e2_5 : (M1 5).undo 5 = (M2 5, 0) := by kernel_rfl
theorem e2 : ∀ n, 2 ≤ n → n ≤ 5 → (M1 n).undo 5 = (M2 n, 0)
  | 2, _, _ => e2_2
  | 3, _, _ => e2_3
  | 4, _, _ => e2_4
  | 5, _, _ => e2_5
  | 0, h, _ | 1, h, _ => absurd h (by decide)
  | _ + 6, _, h => absurd h (by omega)
theorem v2_2 : (M2 2).live = 3 := by kernel_rfl
theorem v2_3 : (M2 3).live = 3 := by kernel_rfl
theorem v2_4 : (M2 4).live = 3 := by kernel_rfl
theorem v2_5 : (M2 5).live = 3 := by kernel_rfl
theorem v2 : ∀ n, 2 ≤ n → n ≤ 5 → (M2 n).live = 3
  | 2, _, _ => v2_2
  | 3, _, _ => v2_3
  | 4, _, _ => v2_4
  | 5, _, _ => v2_5
  | 0, h, _ | 1, h, _ => absurd h (by decide)
  | _ + 6, _, h => absurd h (by omega)
theorem e3_2 : (M2 2).laid 0 ⟨1, 0, 0, none, 0, 0⟩ = (M3 2, 65541, 0) := by kernel_rfl
theorem e3_3 : (M2 3).laid 0 ⟨1, 0, 0, none, 0, 0⟩ = (M3 3, 65541, 0) := by kernel_rfl
theorem e3_4 : (M2 4).laid 0 ⟨1, 0, 0, none, 0, 0⟩ = (M3 4, 65541, 0) := by kernel_rfl
theorem e3_5 : (M2 5).laid 0 ⟨1, 0, 0, none, 0, 0⟩ = (M3 5, 65541, 0) := by kernel_rfl
theorem e3 : ∀ n, 2 ≤ n → n ≤ 5 → (M2 n).laid 0 ⟨1, 0, 0, none, 0, 0⟩ = (M3 n, 65541, 0)
  | 2, _, _ => e3_2
  | 3, _, _ => e3_3
  | 4, _, _ => e3_4
  | 5, _, _ => e3_5
  | 0, h, _ | 1, h, _ => absurd h (by decide)
  | _ + 6, _, h => absurd h (by omega)
theorem o3_2 : (M3 2).okd = true := by kernel_rfl
theorem o3_3 : (M3 3).okd = true := by kernel_rfl
theorem o3_4 : (M3 4).okd = true := by kernel_rfl
theorem o3_5 : (M3 5).okd = true := by kernel_rfl
theorem o3 : ∀ n, 2 ≤ n → n ≤ 5 → (M3 n).okd = true
  | 2, _, _ => o3_2
  | 3, _, _ => o3_3
  | 4, _, _ => o3_4
  | 5, _, _ => o3_5
  | 0, h, _ | 1, h, _ => absurd h (by decide)
  | _ + 6, _, h => absurd h (by omega)
theorem e4_2 : (M3 2).drop 65541 4 = (M4 2, 0) := by kernel_rfl
theorem e4_3 : (M3 3).drop 65541 4 = (M4 3, 0) := by kernel_rfl
theorem e4_4 : (M3 4).drop 65541 4 = (M4 4, 0) := by kernel_rfl
theorem e4_5 : (M3 5).drop 65541 4 = (M4 5, 0) := by kernel_rfl
theorem e4 : ∀ n, 2 ≤ n → n ≤ 5 → (M3 n).drop 65541 4 = (M4 n, 0)
  | 2, _, _ => e4_2
  | 3, _, _ => e4_3
  | 4, _, _ => e4_4
  | 5, _, _ => e4_5
  | 0, h, _ | 1, h, _ => absurd h (by decide)
  | _ + 6, _, h => absurd h (by omega)
theorem v4_2 : (M4 2).live = 5 := by kernel_rfl
theorem v4_3 : (M4 3).live = 5 := by kernel_rfl
theorem v4_4 : (M4 4).live = 5 := by kernel_rfl
theorem v4_5 : (M4 5).live = 5 := by kernel_rfl
theorem v4 : ∀ n, 2 ≤ n → n ≤ 5 → (M4 n).live = 5
  | 2, _, _ => v4_2
  | 3, _, _ => v4_3
  | 4, _, _ => v4_4
  | 5, _, _ => v4_5
  | 0, h, _ | 1, h, _ => absurd h (by decide)
  | _ + 6, _, h => absurd h (by omega)
theorem c4_2 : (M4 2).cells.length = 3 + 2 := by kernel_rfl
theorem c4_3 : (M4 3).cells.length = 3 + 3 := by kernel_rfl
theorem c4_4 : (M4 4).cells.length = 3 + 4 := by kernel_rfl
theorem c4_5 : (M4 5).cells.length = 3 + 5 := by kernel_rfl
theorem c4 : ∀ n, 2 ≤ n → n ≤ 5 → (M4 n).cells.length = 3 + n
  | 2, _, _ => c4_2
  | 3, _, _ => c4_3
  | 4, _, _ => c4_4
  | 5, _, _ => c4_5
  | 0, h, _ | 1, h, _ => absurd h (by decide)
  | _ + 6, _, h => absurd h (by omega)
theorem v5_2 : (M5 2).live = 5 := by kernel_rfl
theorem v5_3 : (M5 3).live = 5 := by kernel_rfl
theorem v5_4 : (M5 4).live = 5 := by kernel_rfl
theorem v5_5 : (M5 5).live = 5 := by kernel_rfl
theorem v5 : ∀ n, 2 ≤ n → n ≤ 5 → (M5 n).live = 5
  | 2, _, _ => v5_2
  | 3, _, _ => v5_3
  | 4, _, _ => v5_4
  | 5, _, _ => v5_5
  | 0, h, _ | 1, h, _ => absurd h (by decide)
  | _ + 6, _, h => absurd h (by omega)
theorem c5_2 : (M5 2).cells.length = 3 + 2 := by kernel_rfl
theorem c5_3 : (M5 3).cells.length = 3 + 3 := by kernel_rfl
theorem c5_4 : (M5 4).cells.length = 3 + 4 := by kernel_rfl
theorem c5_5 : (M5 5).cells.length = 3 + 5 := by kernel_rfl
theorem c5 : ∀ n, 2 ≤ n → n ≤ 5 → (M5 n).cells.length = 3 + n
  | 2, _, _ => c5_2
  | 3, _, _ => c5_3
  | 4, _, _ => c5_4
  | 5, _, _ => c5_5
  | 0, h, _ | 1, h, _ => absurd h (by decide)
  | _ + 6, _, h => absurd h (by omega)
theorem v6_2 : (M6 2).live = 3 := by kernel_rfl
theorem v6_3 : (M6 3).live = 3 := by kernel_rfl
theorem v6_4 : (M6 4).live = 3 := by kernel_rfl
theorem v6_5 : (M6 5).live = 3 := by kernel_rfl
theorem v6 : ∀ n, 2 ≤ n → n ≤ 5 → (M6 n).live = 3
  | 2, _, _ => v6_2
  | 3, _, _ => v6_3
  | 4, _, _ => v6_4
  | 5, _, _ => v6_5
  | 0, h, _ | 1, h, _ => absurd h (by decide)
  | _ + 6, _, h => absurd h (by omega)
theorem o6_2 : (M6 2).okd = true := by kernel_rfl
theorem o6_3 : (M6 3).okd = true := by kernel_rfl
theorem o6_4 : (M6 4).okd = true := by kernel_rfl
theorem o6_5 : (M6 5).okd = true := by kernel_rfl
theorem o6 : ∀ n, 2 ≤ n → n ≤ 5 → (M6 n).okd = true
  | 2, _, _ => o6_2
  | 3, _, _ => o6_3
  | 4, _, _ => o6_4
  | 5, _, _ => o6_5
  | 0, h, _ | 1, h, _ => absurd h (by decide)
  | _ + 6, _, h => absurd h (by omega)
theorem e7_2 : (M6 2).dload 65541 = (M7 2, D.z, 5) := by kernel_rfl
theorem e7_3 : (M6 3).dload 65541 = (M7 3, D.z, 5) := by kernel_rfl
theorem e7_4 : (M6 4).dload 65541 = (M7 4, D.z, 5) := by kernel_rfl
theorem e7_5 : (M6 5).dload 65541 = (M7 5, D.z, 5) := by kernel_rfl
theorem e7 : ∀ n, 2 ≤ n → n ≤ 5 → (M6 n).dload 65541 = (M7 n, D.z, 5)
  | 2, _, _ => e7_2
  | 3, _, _ => e7_3
  | 4, _, _ => e7_4
  | 5, _, _ => e7_5
  | 0, h, _ | 1, h, _ => absurd h (by decide)
  | _ + 6, _, h => absurd h (by omega)
theorem v7_2 : (M7 2).live = 3 := by kernel_rfl
theorem v7_3 : (M7 3).live = 3 := by kernel_rfl
theorem v7_4 : (M7 4).live = 3 := by kernel_rfl
theorem v7_5 : (M7 5).live = 3 := by kernel_rfl
theorem v7 : ∀ n, 2 ≤ n → n ≤ 5 → (M7 n).live = 3
  | 2, _, _ => v7_2
  | 3, _, _ => v7_3
  | 4, _, _ => v7_4
  | 5, _, _ => v7_5
  | 0, h, _ | 1, h, _ => absurd h (by decide)
  | _ + 6, _, h => absurd h (by omega)
end Fu
section
variable {w0 w w' : World} {pb mb cb : Nat} {m m' : M}
set_option maxHeartbeats 1600000 in
theorem pCells (hA : At w mb cb m) (hP : PD w pb mb) {c : Nat} (hc : m.cells.length = c) : Calls Try.prog 39 #[ptr pb] w fun e w' => e = .returned (.int .i64 c) ∧ w = w' := by
  obtain ⟨p0, p1, p2, p3, p4⟩ := hP.cells
  have HC := Lib.hid hc
  clear hc
  go_enter Try.func39, Try.ntmps39
  go_wp2_with fail
  refine (cells_calls hA).mono ?_
  rw [HC.out]
  rintro e w1 ⟨rfl, rfl⟩
  go_wp2_with fail
  go_ret
  exact ⟨rfl, rfl⟩
theorem live_is (hA : At w mb cb m) {v : Int} (hv : m.live = v) : Calls Try.prog 36 #[ptr mb] w fun e w' => e = .returned (.int .i64 v) ∧ w = w' := hv ▸ live_calls hA
theorem live_quiet' (h : At w mb cb m) {c : Int} (e : m.live = c) (n : Nat) : Calls Try.prog 36 #[ptr mb] (w.drewN n) fun e w'' => e = .returned (.int .i64 c) ∧ ∃ k, w'' = w.drewN k := by
  subst e
  exact (live_calls (h.drewN n)).mono fun _ _ ⟨h1, h2⟩ => ⟨h1, n, h2.symm⟩
set_option maxHeartbeats 3200000 in
set_option maxRecDepth 100000 in
theorem Full_no {n : Nat} (hn : n ≤ 1) (h : St w0 w pb mb cb (Fu.M0 n)) {nb yb lb : Nat} {v : Value} (kn : w.heap[nb]? = some (.cells #[.int .i64 n] 3 (0, 0))) (ky : w.heap[yb]? = some (.cells #[ptr mb, .int .i64 3, v] 27 (0, 0))) (kl : w.heap[lb]? = some (.cells #[.int .i64 3] 3 (0, 0))) :
    Calls Try.prog 37 #[ptr pb, .pointer (some ⟨nb, 0, none⟩), .pointer (some ⟨yb, 0, none⟩), .pointer (some ⟨lb, 0, none⟩)] w fun e w' => e = .returned (.iface 4 (.bool true)) ∧ Fr w w' mb cb ∧ w'.heap[lb]? = some (.cells #[.int .i64 3] 3 (0, 0)) := by
  have VX := Lib.hid (Fu.vx n hn)
  have g1 : decide (n < 2) = true := decide_eq_true (by omega)
  go_enter Try.func37, Try.ntmps37
  go_wp2_with fail
  refine (make_nil h 1 0).mono ?_
  rw [Fu.x1 n hn]
  rintro e W1 ⟨rfl, h1, hF⟩
  have kn1 := box1 (hF.blk h.A kn (by decide) (by decide))
  obtain ⟨y0, y1, y2⟩ := box3 (hF.blk h.A ky (by decide) (by decide))
  have kl1 := hF.blk h.A kl (by decide) (by decide)
  have l0 := box1 kl1
  have hA1 := h1.A
  have HF := Lib.hid hF
  have KL := Lib.hid kl1
  clear kn ky kl kl1 h hF h1
  go_wp2_with fail
  go_quiet ((go_at_call 36; exact live_quiet' hA1 VX.out _))
  go_wp2_with fail
  go_ret
  exact ⟨rfl, HF.out.drewN _, KL.out⟩
set_option maxHeartbeats 12800000 in
set_option maxRecDepth 100000 in
theorem Full_yes {n : Nat} (hn : 2 ≤ n) (hn' : n ≤ 5) (h : St w0 w pb mb cb (Fu.M0 n)) {nb yb lb : Nat} {v : Value} (kn : w.heap[nb]? = some (.cells #[.int .i64 n] 3 (0, 0))) (ky : w.heap[yb]? = some (.cells #[ptr mb, .int .i64 3, v] 27 (0, 0))) (kl : w.heap[lb]? = some (.cells #[.int .i64 3] 3 (0, 0))) :
    Calls Try.prog 37 #[ptr pb, .pointer (some ⟨nb, 0, none⟩), .pointer (some ⟨yb, 0, none⟩), .pointer (some ⟨lb, 0, none⟩)] w fun e w' => e = .returned (.iface 4 (.bool true)) ∧ Fr w w' mb cb ∧ w'.heap[lb]? = some (.cells #[.int .i64 3] 3 (0, 0)) := by
  have g1 : decide (n < 2) = false := decide_eq_false (by omega)
  have hw5 : IntKind.i64.wrap 5 = 5 := by decide
  have hw5' : IntKind.i64.wrap (3 + 2) = 5 := by decide
  go_enter Try.func37, Try.ntmps37
  go_wp2_with fail
  refine (make_nil h 1 0).mono ?_
  rw [Fu.e1 n hn hn']
  rintro e W1 ⟨rfl, h1, hF⟩
  have ky1 := hF.blk h.A ky (by decide) (by decide)
  have kl1 := hF.blk h.A kl (by decide) (by decide)
  have kn1 := box1 (hF.blk h.A kn (by decide) (by decide))
  have HF1 := Lib.hid hF
  clear kn ky kl h hF
  obtain ⟨y0, y1, y2⟩ := box3 ky1
  have l0 := box1 kl1
  go_upto_region 4 with fail
  clear kn1
  refine start_ (n := 23) (S := fun w' => w'.cell? ⟨yb, 0, none⟩ = some (ptr mb) ∧ w'.cell? ⟨lb, 0, none⟩ = some (.int .i64 3)) (ds := []) #[false, false, false, false, false, false, false, false, false, false, false, false, false, false, false, false, false, false, false, false, false, false, false] rfl rfl rfl (⟨y0, l0⟩) ?_
  intro hHeld
  refine pure_ (i := 0) (N := some 35) (v := ?_) (a' := ?_) #[true, false, false, false, false, false, false, false, false, false, false, false, false, false, false, false, false, false, false, false, false, false, false] rfl rfl (by kernel_rfl) (fun _ _ _ h => h) (Or.inl ⟨by rfl, ?_⟩) ?_ ?_
  rotate_left
  · intro w'
    go_simp
    with_reducible rfl
  rotate_left
  · simp only [Act.put, List.setIfInBounds_toArray, List.set_cons_zero, List.set_cons_succ, i64_w, i32_w]
    rfl
  refine pure_ (i := 1) (N := some 36) (v := ?_) (a' := ?_) #[true, true, false, false, false, false, false, false, false, false, false, false, false, false, false, false, false, false, false, false, false, false, false] rfl rfl (by kernel_rfl) (fun _ _ _ h => h) (Or.inl ⟨by rfl, ?_⟩) ?_ ?_
  rotate_left
  · intro w'
    go_simp
    with_reducible rfl
  rotate_left
  · simp only [Act.put, List.setIfInBounds_toArray, List.set_cons_zero, List.set_cons_succ, i64_w, i32_w]
    rfl
  refine pure_ (i := 2) (N := some 37) (v := ?_) (a' := ?_) #[true, true, true, false, false, false, false, false, false, false, false, false, false, false, false, false, false, false, false, false, false, false, false] rfl rfl (by kernel_rfl) (fun _ _ _ h => h) (Or.inl ⟨by rfl, ?_⟩) ?_ ?_
  rotate_left
  · intro w'
    go_simp
    with_reducible rfl
  rotate_left
  · simp only [Act.put, List.setIfInBounds_toArray, List.set_cons_zero, List.set_cons_succ, i64_w, i32_w]
    rfl
  refine take_ (i := 3) (N := some 38) (v := ?_) (a' := ?_) #[true, true, true, true, false, false, false, false, false, false, false, false, false, false, false, false, false, false, false, false, false, false, false] rfl rfl (by kernel_rfl) (fun _ _ _ h => h) (Or.inl ⟨by rfl, ?_⟩) hHeld ?_ ?_
  rotate_left
  · rintro w' hHeld'
    have hHeld'' := hHeld'
    (try obtain ⟨r0_, r1_⟩ := hHeld')
    (try obtain ⟨r1_, r2_⟩ := r1_)
    (try obtain ⟨r2_, r3_⟩ := r2_)
    (try obtain ⟨r3_, r4_⟩ := r3_)
    go_simp
    with_reducible rfl
  rotate_left
  · simp only [Act.put, List.setIfInBounds_toArray, List.set_cons_zero, List.set_cons_succ, i64_w, i32_w]
    rfl
  refine take_ (i := 4) (N := some 39) (v := ?_) (a' := ?_) #[true, true, true, true, true, false, false, false, false, false, false, false, false, false, false, false, false, false, false, false, false, false, false] rfl rfl (by kernel_rfl) (fun _ _ _ h => h) (Or.inl ⟨by rfl, ?_⟩) hHeld ?_ ?_
  rotate_left
  · rintro w' hHeld'
    have hHeld'' := hHeld'
    (try obtain ⟨r0_, r1_⟩ := hHeld')
    (try obtain ⟨r1_, r2_⟩ := r1_)
    (try obtain ⟨r2_, r3_⟩ := r2_)
    (try obtain ⟨r3_, r4_⟩ := r3_)
    go_simp
    with_reducible rfl
  rotate_left
  · simp only [Act.put, List.setIfInBounds_toArray, List.set_cons_zero, List.set_cons_succ, i64_w, i32_w]
    rfl
  refine take_ (i := 6) (N := some 41) (v := ?_) (a' := ?_) #[true, true, true, true, true, false, true, false, false, false, false, false, false, false, false, false, false, false, false, false, false, false, false] rfl rfl (by kernel_rfl) (fun _ _ _ h => h) (Or.inl ⟨by rfl, ?_⟩) hHeld ?_ ?_
  rotate_left
  · rintro w' hHeld'
    have hHeld'' := hHeld'
    (try obtain ⟨r0_, r1_⟩ := hHeld')
    (try obtain ⟨r1_, r2_⟩ := r1_)
    (try obtain ⟨r2_, r3_⟩ := r2_)
    (try obtain ⟨r3_, r4_⟩ := r3_)
    go_simp
    with_reducible rfl
  rotate_left
  · simp only [Act.put, List.setIfInBounds_toArray, List.set_cons_zero, List.set_cons_succ, i64_w, i32_w]
    rfl
  refine pure_ (i := 7) (N := some 42) (v := ?_) (a' := ?_) #[true, true, true, true, true, false, true, true, false, false, false, false, false, false, false, false, false, false, false, false, false, false, false] rfl rfl (by kernel_rfl) (fun _ _ _ h => h) (Or.inl ⟨by rfl, ?_⟩) ?_ ?_
  rotate_left
  · intro w'
    go_simp
    with_reducible rfl
  rotate_left
  · simp only [Act.put, List.setIfInBounds_toArray, List.set_cons_zero, List.set_cons_succ, i64_w, i32_w]
    rfl
  refine one_ (i := 5) (N := some 40) #[true, true, true, true, true, true, true, true, false, false, false, false, false, false, false, false, false, false, false, false, false, false, false] rfl rfl (by kernel_rfl) (by decide) (fun K hSh => ?_)
  refine goes_ Try.func36 (by kernel_rfl) rfl #[ptr mb] (by rfl) rfl rfl (by (try simp only [List.map_toArray, List.map_cons, List.map_nil]); rfl) ?_
  refine (live_is (h1.drewN 1).A (Fu.v1 n hn hn')).mono ?_
  rintro e W2 ⟨rfl, rfl⟩
  refine ⟨_, rfl, ?_⟩
  refine hSh.out _ _ hHeld ?_
  clear hHeld
  intro hHeld
  refine norm_ (a' := ?_) ?_ ?_
  rotate_left
  · simp only [Act.put, List.setIfInBounds_toArray, List.set_cons_zero, List.set_cons_succ, i64_w, i32_w]
    rfl
  refine pure_ (i := 8) (N := some 43) (v := ?_) (a' := ?_) #[true, true, true, true, true, true, true, true, true, false, false, false, false, false, false, false, false, false, false, false, false, false, false] rfl rfl (by kernel_rfl) (fun _ _ _ h => h) (Or.inl ⟨by rfl, ?_⟩) ?_ ?_
  rotate_left
  · intro w'
    go_simp
    with_reducible rfl
  rotate_left
  · simp only [Act.put, List.setIfInBounds_toArray, List.set_cons_zero, List.set_cons_succ, i64_w, i32_w]
    rfl
  refine pure_ (i := 9) (N := some 44) (v := ?_) (a' := ?_) #[true, true, true, true, true, true, true, true, true, true, false, false, false, false, false, false, false, false, false, false, false, false, false] rfl rfl (by kernel_rfl) (fun _ _ _ h => h) (Or.inl ⟨by rfl, ?_⟩) ?_ ?_
  rotate_left
  · intro w'
    go_simp
    with_reducible rfl
  rotate_left
  · simp only [Act.put, List.setIfInBounds_toArray, List.set_cons_zero, List.set_cons_succ, i64_w, i32_w]
    rfl
  refine pure_ (i := 10) (N := some 45) (v := ?_) (a' := ?_) #[true, true, true, true, true, true, true, true, true, true, true, false, false, false, false, false, false, false, false, false, false, false, false] rfl rfl (by kernel_rfl) (fun _ _ _ h => h) (Or.inl ⟨by rfl, ?_⟩) ?_ ?_
  rotate_left
  · intro w'
    go_simp
    with_reducible rfl
  rotate_left
  · simp only [Act.put, List.setIfInBounds_toArray, List.set_cons_zero, List.set_cons_succ, i64_w, i32_w]
    rfl
  refine pure_ (i := 11) (N := some 46) (v := ?_) (a' := ?_) #[true, true, true, true, true, true, true, true, true, true, true, true, false, false, false, false, false, false, false, false, false, false, false] rfl rfl (by kernel_rfl) (fun _ _ _ h => h) (Or.inl ⟨by rfl, ?_⟩) ?_ ?_
  rotate_left
  · intro w'
    go_simp
    with_reducible rfl
  rotate_left
  · simp only [Act.put, List.setIfInBounds_toArray, List.set_cons_zero, List.set_cons_succ, i64_w, i32_w]
    rfl
  refine pure_ (i := 12) (N := some 47) (v := ?_) (a' := ?_) #[true, true, true, true, true, true, true, true, true, true, true, true, true, false, false, false, false, false, false, false, false, false, false] rfl rfl (by kernel_rfl) (fun _ _ _ h => h) (Or.inl ⟨by rfl, ?_⟩) ?_ ?_
  rotate_left
  · intro w'
    go_simp
    with_reducible rfl
  rotate_left
  · simp only [Act.put, List.setIfInBounds_toArray, List.set_cons_zero, List.set_cons_succ, i64_w, i32_w]
    rfl
  refine one_ (i := 13) (N := some 48) #[true, true, true, true, true, true, true, true, true, true, true, true, true, true, false, false, false, false, false, false, false, false, false] rfl rfl (by kernel_rfl) (by decide) (fun K hSh => ?_)
  refine goes_ Try.func28 (by kernel_rfl) rfl #[ptr pb, .int .i64 5] (by rfl) rfl rfl (by (try simp only [List.map_toArray, List.map_cons, List.map_nil]); rfl) ?_
  refine (undo_calls (h1.drewN 1) (Fu.o1 n hn hn') 5).mono ?_
  rw [Fu.e2 n hn hn']
  rintro e W3 ⟨rfl, h3, hF⟩
  have ky3 := hF.blk (h1.drewN 1).A (show (W1.drewN 1).heap[yb]? = _ from ky1) (by decide) (by decide)
  have kl3 := hF.blk (h1.drewN 1).A (show (W1.drewN 1).heap[lb]? = _ from kl1) (by decide) (by decide)
  have HF3 := Lib.hid ((HF1.out.drewN 1).trans hF)
  refine ⟨_, rfl, ?_⟩
  refine hSh.out _ _ ⟨(box3 ky3).1, box1 kl3⟩ ?_
  clear hHeld y0 y1 y2 l0 ky1 kl1 h1 hF HF1
  intro hHeld
  refine norm_ (a' := ?_) ?_ ?_
  rotate_left
  · simp only [Act.put, List.setIfInBounds_toArray, List.set_cons_zero, List.set_cons_succ, i64_w, i32_w]
    rfl
  refine pure_ (i := 14) (N := some 49) (v := ?_) (a' := ?_) #[true, true, true, true, true, true, true, true, true, true, true, true, true, true, true, false, false, false, false, false, false, false, false] rfl rfl (by kernel_rfl) (fun _ _ _ h => h) (Or.inl ⟨by rfl, ?_⟩) ?_ ?_
  rotate_left
  · intro w'
    go_simp
    with_reducible rfl
  rotate_left
  · simp only [Act.put, List.setIfInBounds_toArray, List.set_cons_zero, List.set_cons_succ, i64_w, i32_w]
    rfl
  refine pure_ (i := 15) (N := some 50) (v := ?_) (a' := ?_) #[true, true, true, true, true, true, true, true, true, true, true, true, true, true, true, true, false, false, false, false, false, false, false] rfl rfl (by kernel_rfl) (fun _ _ _ h => h) (Or.inl ⟨by rfl, ?_⟩) ?_ ?_
  rotate_left
  · intro w'
    go_simp
    with_reducible rfl
  rotate_left
  · simp only [Act.put, List.setIfInBounds_toArray, List.set_cons_zero, List.set_cons_succ, i64_w, i32_w]
    rfl
  refine pure_ (i := 16) (N := some 51) (v := ?_) (a' := ?_) #[true, true, true, true, true, true, true, true, true, true, true, true, true, true, true, true, true, false, false, false, false, false, false] rfl rfl (by kernel_rfl) (fun _ _ _ h => h) (Or.inl ⟨by rfl, ?_⟩) ?_ ?_
  rotate_left
  · intro w'
    go_simp
    with_reducible rfl
  rotate_left
  · simp only [Act.put, List.setIfInBounds_toArray, List.set_cons_zero, List.set_cons_succ, i64_w, i32_w]
    rfl
  refine take_ (i := 17) (N := some 52) (v := ?_) (a' := ?_) #[true, true, true, true, true, true, true, true, true, true, true, true, true, true, true, true, true, true, false, false, false, false, false] rfl rfl (by kernel_rfl) (fun _ _ _ h => h) (Or.inl ⟨by rfl, ?_⟩) hHeld ?_ ?_
  rotate_left
  · rintro w' hHeld'
    have hHeld'' := hHeld'
    (try obtain ⟨r0_, r1_⟩ := hHeld')
    (try obtain ⟨r1_, r2_⟩ := r1_)
    (try obtain ⟨r2_, r3_⟩ := r2_)
    (try obtain ⟨r3_, r4_⟩ := r3_)
    go_simp
    with_reducible rfl
  rotate_left
  · simp only [Act.put, List.setIfInBounds_toArray, List.set_cons_zero, List.set_cons_succ, i64_w, i32_w]
    rfl
  refine take_ (i := 18) (N := some 53) (v := ?_) (a' := ?_) #[true, true, true, true, true, true, true, true, true, true, true, true, true, true, true, true, true, true, true, false, false, false, false] rfl rfl (by kernel_rfl) (fun _ _ _ h => h) (Or.inl ⟨by rfl, ?_⟩) hHeld ?_ ?_
  rotate_left
  · rintro w' hHeld'
    have hHeld'' := hHeld'
    (try obtain ⟨r0_, r1_⟩ := hHeld')
    (try obtain ⟨r1_, r2_⟩ := r1_)
    (try obtain ⟨r2_, r3_⟩ := r2_)
    (try obtain ⟨r3_, r4_⟩ := r3_)
    go_simp
    with_reducible rfl
  rotate_left
  · simp only [Act.put, List.setIfInBounds_toArray, List.set_cons_zero, List.set_cons_succ, i64_w, i32_w]
    rfl
  refine take_ (i := 20) (N := some 55) (v := ?_) (a' := ?_) #[true, true, true, true, true, true, true, true, true, true, true, true, true, true, true, true, true, true, true, false, true, false, false] rfl rfl (by kernel_rfl) (fun _ _ _ h => h) (Or.inl ⟨by rfl, ?_⟩) hHeld ?_ ?_
  rotate_left
  · rintro w' hHeld'
    have hHeld'' := hHeld'
    (try obtain ⟨r0_, r1_⟩ := hHeld')
    (try obtain ⟨r1_, r2_⟩ := r1_)
    (try obtain ⟨r2_, r3_⟩ := r2_)
    (try obtain ⟨r3_, r4_⟩ := r3_)
    go_simp
    with_reducible rfl
  rotate_left
  · simp only [Act.put, List.setIfInBounds_toArray, List.set_cons_zero, List.set_cons_succ, i64_w, i32_w]
    rfl
  refine one_ (i := 19) (N := some 54) #[true, true, true, true, true, true, true, true, true, true, true, true, true, true, true, true, true, true, true, true, true, false, false] rfl rfl (by kernel_rfl) (by decide) (fun K hSh => ?_)
  refine goes_ Try.func36 (by kernel_rfl) rfl #[ptr mb] (by rfl) rfl rfl (by (try simp only [List.map_toArray, List.map_cons, List.map_nil]); rfl) ?_
  refine (live_is h3.A (Fu.v2 n hn hn')).mono ?_
  rintro e W4 ⟨rfl, rfl⟩
  refine ⟨_, rfl, ?_⟩
  refine hSh.out _ _ hHeld ?_
  clear hHeld
  intro hHeld
  refine norm_ (a' := ?_) ?_ ?_
  rotate_left
  · simp only [Act.put, List.setIfInBounds_toArray, List.set_cons_zero, List.set_cons_succ, i64_w, i32_w]
    rfl
  refine pure_ (i := 21) (N := some 56) (v := ?_) (a' := ?_) #[true, true, true, true, true, true, true, true, true, true, true, true, true, true, true, true, true, true, true, true, true, true, false] rfl rfl (by kernel_rfl) (fun _ _ _ h => h) (Or.inl ⟨by rfl, ?_⟩) ?_ ?_
  rotate_left
  · intro w'
    go_simp
    with_reducible rfl
  rotate_left
  · simp only [Act.put, List.setIfInBounds_toArray, List.set_cons_zero, List.set_cons_succ, i64_w, i32_w]
    rfl
  refine pure_ (i := 22) (N := some 57) (v := ?_) (a' := ?_) #[true, true, true, true, true, true, true, true, true, true, true, true, true, true, true, true, true, true, true, true, true, true, true] rfl rfl (by kernel_rfl) (fun _ _ _ h => h) (Or.inl ⟨by rfl, ?_⟩) ?_ ?_
  rotate_left
  · intro w'
    go_simp
    with_reducible rfl
  rotate_left
  · simp only [Act.put, List.setIfInBounds_toArray, List.set_cons_zero, List.set_cons_succ, i64_w, i32_w]
    rfl
  refine done_ (by kernel_rfl) ?_
  clear hHeld
  go_wp2_with fail
  refine (make_nil h3 1 0).mono ?_
  rw [Fu.e3 n hn hn']
  rintro e W5 ⟨rfl, h5, hF⟩
  have ky5 := hF.blk h3.A ky3 (by decide) (by decide)
  have kl5 := hF.blk h3.A kl3 (by decide) (by decide)
  have HF5 := Lib.hid (HF3.out.trans hF)
  clear ky3 kl3 h3 hF HF3
  obtain ⟨y0, y1, y2⟩ := box3 ky5
  have l0 := box1 kl5
  go_upto_region 7 with fail
  refine start_ (n := 21) (S := fun w' => w'.cell? ⟨yb, 0, none⟩ = some (ptr mb) ∧ w'.cell? ⟨lb, 0, none⟩ = some (.int .i64 3)) (ds := []) #[false, false, false, false, false, false, false, false, false, false, false, false, false, false, false, false, false, false, false, false, false] rfl rfl rfl (⟨y0, l0⟩) ?_
  intro hHeld
  refine pure_ (i := 0) (N := some 64) (v := ?_) (a' := ?_) #[true, false, false, false, false, false, false, false, false, false, false, false, false, false, false, false, false, false, false, false, false] rfl rfl (by kernel_rfl) (fun _ _ _ h => h) (Or.inl ⟨by rfl, ?_⟩) ?_ ?_
  rotate_left
  · intro w'
    go_simp
    with_reducible rfl
  rotate_left
  · simp only [Act.put, List.setIfInBounds_toArray, List.set_cons_zero, List.set_cons_succ, i64_w, i32_w]
    rfl
  refine pure_ (i := 1) (N := some 65) (v := ?_) (a' := ?_) #[true, true, false, false, false, false, false, false, false, false, false, false, false, false, false, false, false, false, false, false, false] rfl rfl (by kernel_rfl) (fun _ _ _ h => h) (Or.inl ⟨by rfl, ?_⟩) ?_ ?_
  rotate_left
  · intro w'
    go_simp
    with_reducible rfl
  rotate_left
  · simp only [Act.put, List.setIfInBounds_toArray, List.set_cons_zero, List.set_cons_succ, i64_w, i32_w]
    rfl
  refine pure_ (i := 2) (N := some 66) (v := ?_) (a' := ?_) #[true, true, true, false, false, false, false, false, false, false, false, false, false, false, false, false, false, false, false, false, false] rfl rfl (by kernel_rfl) (fun _ _ _ h => h) (Or.inl ⟨by rfl, ?_⟩) ?_ ?_
  rotate_left
  · intro w'
    go_simp
    with_reducible rfl
  rotate_left
  · simp only [Act.put, List.setIfInBounds_toArray, List.set_cons_zero, List.set_cons_succ, i64_w, i32_w]
    rfl
  refine pure_ (i := 3) (N := some 67) (v := ?_) (a' := ?_) #[true, true, true, true, false, false, false, false, false, false, false, false, false, false, false, false, false, false, false, false, false] rfl rfl (by kernel_rfl) (fun _ _ _ h => h) (Or.inl ⟨by rfl, ?_⟩) ?_ ?_
  rotate_left
  · intro w'
    go_simp
    with_reducible rfl
  rotate_left
  · simp only [Act.put, List.setIfInBounds_toArray, List.set_cons_zero, List.set_cons_succ, i64_w, i32_w]
    rfl
  refine pure_ (i := 4) (N := some 68) (v := ?_) (a' := ?_) #[true, true, true, true, true, false, false, false, false, false, false, false, false, false, false, false, false, false, false, false, false] rfl rfl (by kernel_rfl) (fun _ _ _ h => h) (Or.inl ⟨by rfl, ?_⟩) ?_ ?_
  rotate_left
  · intro w'
    go_simp
    with_reducible rfl
  rotate_left
  · simp only [Act.put, List.setIfInBounds_toArray, List.set_cons_zero, List.set_cons_succ, i64_w, i32_w]
    rfl
  refine pure_ (i := 5) (N := some 69) (v := ?_) (a' := ?_) #[true, true, true, true, true, true, false, false, false, false, false, false, false, false, false, false, false, false, false, false, false] rfl rfl (by kernel_rfl) (fun _ _ _ h => h) (Or.inl ⟨by rfl, ?_⟩) ?_ ?_
  rotate_left
  · intro w'
    go_simp
    with_reducible rfl
  rotate_left
  · simp only [Act.put, List.setIfInBounds_toArray, List.set_cons_zero, List.set_cons_succ, i64_w, i32_w]
    rfl
  refine pure_ (i := 6) (N := some 70) (v := ?_) (a' := ?_) #[true, true, true, true, true, true, true, false, false, false, false, false, false, false, false, false, false, false, false, false, false] rfl rfl (by kernel_rfl) (fun _ _ _ h => h) (Or.inl ⟨by rfl, ?_⟩) ?_ ?_
  rotate_left
  · intro w'
    go_simp
    with_reducible rfl
  rotate_left
  · simp only [Act.put, List.setIfInBounds_toArray, List.set_cons_zero, List.set_cons_succ, i64_w, i32_w]
    rfl
  refine pure_ (i := 7) (N := some 71) (v := ?_) (a' := ?_) #[true, true, true, true, true, true, true, true, false, false, false, false, false, false, false, false, false, false, false, false, false] rfl rfl (by kernel_rfl) (fun _ _ _ h => h) (Or.inl ⟨by rfl, ?_⟩) ?_ ?_
  rotate_left
  · intro w'
    go_simp
    with_reducible rfl
  rotate_left
  · simp only [Act.put, List.setIfInBounds_toArray, List.set_cons_zero, List.set_cons_succ, i64_w, i32_w]
    rfl
  refine pure_ (i := 8) (N := some 72) (v := ?_) (a' := ?_) #[true, true, true, true, true, true, true, true, true, false, false, false, false, false, false, false, false, false, false, false, false] rfl rfl (by kernel_rfl) (fun _ _ _ h => h) (Or.inl ⟨by rfl, ?_⟩) ?_ ?_
  rotate_left
  · intro w'
    go_simp
    with_reducible rfl
  rotate_left
  · simp only [Act.put, List.setIfInBounds_toArray, List.set_cons_zero, List.set_cons_succ, i64_w, i32_w]
    rfl
  refine pure_ (i := 9) (N := some 73) (v := ?_) (a' := ?_) #[true, true, true, true, true, true, true, true, true, true, false, false, false, false, false, false, false, false, false, false, false] rfl rfl (by kernel_rfl) (fun _ _ _ h => h) (Or.inl ⟨by rfl, ?_⟩) ?_ ?_
  rotate_left
  · intro w'
    go_simp
    with_reducible rfl
  rotate_left
  · simp only [Act.put, List.setIfInBounds_toArray, List.set_cons_zero, List.set_cons_succ, i64_w, i32_w]
    rfl
  refine one_ (i := 10) (N := some 74) #[true, true, true, true, true, true, true, true, true, true, true, false, false, false, false, false, false, false, false, false, false] rfl rfl (by kernel_rfl) (by decide) (fun K hSh => ?_)
  refine goes_ Try.func29 (by kernel_rfl) rfl #[ptr pb, .int .i64 65541, .int .i64 4] (by rfl) rfl rfl (by (try simp only [List.map_toArray, List.map_cons, List.map_nil]); rfl) ?_
  refine (drop_calls (h5.drewN 1) (Fu.o3 n hn hn') 65541 4).mono ?_
  rw [Fu.e4 n hn hn']
  rintro e W6 ⟨rfl, h6, hF⟩
  have ky6 := hF.blk (h5.drewN 1).A (show (W5.drewN 1).heap[yb]? = _ from ky5) (by decide) (by decide)
  have kl6 := hF.blk (h5.drewN 1).A (show (W5.drewN 1).heap[lb]? = _ from kl5) (by decide) (by decide)
  have HF6 := Lib.hid ((HF5.out.drewN 1).trans hF)
  refine ⟨_, rfl, ?_⟩
  refine hSh.out _ _ ⟨(box3 ky6).1, box1 kl6⟩ ?_
  clear hHeld y0 y1 y2 l0 ky5 kl5 h5 hF HF5
  intro hHeld
  refine norm_ (a' := ?_) ?_ ?_
  rotate_left
  · simp only [Act.put, List.setIfInBounds_toArray, List.set_cons_zero, List.set_cons_succ, i64_w, i32_w]
    rfl
  refine pure_ (i := 11) (N := some 75) (v := ?_) (a' := ?_) #[true, true, true, true, true, true, true, true, true, true, true, true, false, false, false, false, false, false, false, false, false] rfl rfl (by kernel_rfl) (fun _ _ _ h => h) (Or.inl ⟨by rfl, ?_⟩) ?_ ?_
  rotate_left
  · intro w'
    go_simp
    with_reducible rfl
  rotate_left
  · simp only [Act.put, List.setIfInBounds_toArray, List.set_cons_zero, List.set_cons_succ, i64_w, i32_w]
    rfl
  refine pure_ (i := 12) (N := some 76) (v := ?_) (a' := ?_) #[true, true, true, true, true, true, true, true, true, true, true, true, true, false, false, false, false, false, false, false, false] rfl rfl (by kernel_rfl) (fun _ _ _ h => h) (Or.inl ⟨by rfl, ?_⟩) ?_ ?_
  rotate_left
  · intro w'
    go_simp
    with_reducible rfl
  rotate_left
  · simp only [Act.put, List.setIfInBounds_toArray, List.set_cons_zero, List.set_cons_succ, i64_w, i32_w]
    rfl
  refine pure_ (i := 13) (N := some 77) (v := ?_) (a' := ?_) #[true, true, true, true, true, true, true, true, true, true, true, true, true, true, false, false, false, false, false, false, false] rfl rfl (by kernel_rfl) (fun _ _ _ h => h) (Or.inl ⟨by rfl, ?_⟩) ?_ ?_
  rotate_left
  · intro w'
    go_simp
    with_reducible rfl
  rotate_left
  · simp only [Act.put, List.setIfInBounds_toArray, List.set_cons_zero, List.set_cons_succ, i64_w, i32_w]
    rfl
  refine take_ (i := 14) (N := some 78) (v := ?_) (a' := ?_) #[true, true, true, true, true, true, true, true, true, true, true, true, true, true, true, false, false, false, false, false, false] rfl rfl (by kernel_rfl) (fun _ _ _ h => h) (Or.inl ⟨by rfl, ?_⟩) hHeld ?_ ?_
  rotate_left
  · rintro w' hHeld'
    have hHeld'' := hHeld'
    (try obtain ⟨r0_, r1_⟩ := hHeld')
    (try obtain ⟨r1_, r2_⟩ := r1_)
    (try obtain ⟨r2_, r3_⟩ := r2_)
    (try obtain ⟨r3_, r4_⟩ := r3_)
    go_simp
    with_reducible rfl
  rotate_left
  · simp only [Act.put, List.setIfInBounds_toArray, List.set_cons_zero, List.set_cons_succ, i64_w, i32_w]
    rfl
  refine take_ (i := 15) (N := some 79) (v := ?_) (a' := ?_) #[true, true, true, true, true, true, true, true, true, true, true, true, true, true, true, true, false, false, false, false, false] rfl rfl (by kernel_rfl) (fun _ _ _ h => h) (Or.inl ⟨by rfl, ?_⟩) hHeld ?_ ?_
  rotate_left
  · rintro w' hHeld'
    have hHeld'' := hHeld'
    (try obtain ⟨r0_, r1_⟩ := hHeld')
    (try obtain ⟨r1_, r2_⟩ := r1_)
    (try obtain ⟨r2_, r3_⟩ := r2_)
    (try obtain ⟨r3_, r4_⟩ := r3_)
    go_simp
    with_reducible rfl
  rotate_left
  · simp only [Act.put, List.setIfInBounds_toArray, List.set_cons_zero, List.set_cons_succ, i64_w, i32_w]
    rfl
  refine take_ (i := 17) (N := some 81) (v := ?_) (a' := ?_) #[true, true, true, true, true, true, true, true, true, true, true, true, true, true, true, true, false, true, false, false, false] rfl rfl (by kernel_rfl) (fun _ _ _ h => h) (Or.inl ⟨by rfl, ?_⟩) hHeld ?_ ?_
  rotate_left
  · rintro w' hHeld'
    have hHeld'' := hHeld'
    (try obtain ⟨r0_, r1_⟩ := hHeld')
    (try obtain ⟨r1_, r2_⟩ := r1_)
    (try obtain ⟨r2_, r3_⟩ := r2_)
    (try obtain ⟨r3_, r4_⟩ := r3_)
    go_simp
    with_reducible rfl
  rotate_left
  · simp only [Act.put, List.setIfInBounds_toArray, List.set_cons_zero, List.set_cons_succ, i64_w, i32_w]
    rfl
  refine pure_ (i := 18) (N := some 82) (v := ?_) (a' := ?_) #[true, true, true, true, true, true, true, true, true, true, true, true, true, true, true, true, false, true, true, false, false] rfl rfl (by kernel_rfl) (fun _ _ _ h => h) (Or.inl ⟨by rfl, ?_⟩) ?_ ?_
  rotate_left
  · intro w'
    go_simp
    with_reducible rfl
  rotate_left
  · simp only [Act.put, List.setIfInBounds_toArray, List.set_cons_zero, List.set_cons_succ, i64_w, i32_w]
    rfl
  refine one_ (i := 16) (N := some 80) #[true, true, true, true, true, true, true, true, true, true, true, true, true, true, true, true, true, true, true, false, false] rfl rfl (by kernel_rfl) (by decide) (fun K hSh => ?_)
  refine goes_ Try.func36 (by kernel_rfl) rfl #[ptr mb] (by rfl) rfl rfl (by (try simp only [List.map_toArray, List.map_cons, List.map_nil]); rfl) ?_
  refine (live_is h6.A (Fu.v4 n hn hn')).mono ?_
  rintro e W7 ⟨rfl, rfl⟩
  refine ⟨_, rfl, ?_⟩
  refine hSh.out _ _ hHeld ?_
  clear hHeld
  intro hHeld
  refine norm_ (a' := ?_) ?_ ?_
  rotate_left
  · simp only [Act.put, List.setIfInBounds_toArray, List.set_cons_zero, List.set_cons_succ, i64_w, i32_w]
    rfl
  refine pure_ (i := 19) (N := some 83) (v := ?_) (a' := ?_) #[true, true, true, true, true, true, true, true, true, true, true, true, true, true, true, true, true, true, true, true, false] rfl rfl (by kernel_rfl) (fun _ _ _ h => h) (Or.inl ⟨by rfl, ?_⟩) ?_ ?_
  rotate_left
  · intro w'
    go_simp
    with_reducible rfl
  rotate_left
  · simp only [Act.put, List.setIfInBounds_toArray, List.set_cons_zero, List.set_cons_succ, i64_w, i32_w]
    rfl
  refine pure_ (i := 20) (N := some 84) (v := ?_) (a' := ?_) #[true, true, true, true, true, true, true, true, true, true, true, true, true, true, true, true, true, true, true, true, true] rfl rfl (by kernel_rfl) (fun _ _ _ h => h) (Or.inl ⟨by rfl, ?_⟩) ?_ ?_
  rotate_left
  · intro w'
    go_simp
    with_reducible rfl
  rotate_left
  · simp only [Act.put, List.setIfInBounds_toArray, List.set_cons_zero, List.set_cons_succ, i64_w, i32_w]
    rfl
  refine done_ (by kernel_rfl) ?_
  clear hHeld
  have C4 := Lib.hid (Fu.c4 n hn hn')
  go_wp2_with fail
  go_loopw [10] (fun i wr => ∃ k : Nat, k ≤ 3 + n ∧ i = .int .i64 k ∧ St w0 wr pb mb cb ((Fu.M4 n).reapN 4 k) ∧ Fr w wr mb cb ∧ wr.heap[yb]? = some (.cells #[ptr mb, .int .i64 3, v] 27 (0, 0)) ∧ wr.heap[lb]? = some (.cells #[.int .i64 3] 3 (0, 0))) (fun i _ => 3 + n - (intOf i).toNat)
  case atStart => exact ⟨0, by omega, rfl, h6, HF6.out, ky6, kl6⟩
  case round =>
    clear h6 HF6 ky6 kl6
    obtain ⟨k, hk, rfl, h, hFw, ky, kl⟩ := hrel
    have hlen := Lib.hid ((M.reapN_len (Fu.M4 n) 4 k).trans C4.out)
    by_cases hlt : k < 3 + n
    · have g2 : decide (k < 3 + n) = true := decide_eq_true hlt
      go_wp2_with fail
      refine (pCells h.A h.P hlen.out).mono ?_
      rintro e w1 ⟨rfl, rfl⟩
      go_wp2_with fail
      refine (qReap h k 4).mono ?_
      rintro e W8 ⟨rfl, h8, hF⟩
      have ky8 := hF.blk h.A ky (by decide) (by decide)
      have kl8 := hF.blk h.A kl (by decide) (by decide)
      have HF8 := Lib.hid (hFw.trans hF)
      clear ky kl h hF hFw
      go_wp2_with fail
      go_roundw
      case rel => exact ⟨k + 1, by omega, by go_num, h8, HF8.out, ky8, kl8⟩
      case measure => simp [intOf]; omega
    · obtain rfl : k = 3 + n := by omega
      have g2 : decide (3 + n < 3 + n) = false := decide_eq_false (by omega)
      go_wp2_with fail
      refine (pCells h.A h.P hlen.out).mono ?_
      rintro e w1 ⟨rfl, rfl⟩
      obtain ⟨y0, y1, y2⟩ := box3 ky
      have l0 := box1 kl
      have V5 := Lib.hid (show ((Fu.M4 n).reapN 4 (3 + n)).live = 5 from Fu.v5 n hn hn')
      have hA := h.A
      have HFw := Lib.hid hFw
      have KY := Lib.hid ky
      have KL := Lib.hid kl
      clear ky kl hFw
      go_wp2_with fail
      go_quiet ((go_at_call 36; exact live_quiet' hA V5.out _))
      have C5 := Lib.hid (Fu.c5 n hn hn')
      go_wp2_with fail
      clear y0 y1 y2 l0
      go_loopw [11] (fun i wr => ∃ k : Nat, k ≤ 3 + n ∧ i = .int .i64 k ∧ St w0 wr pb mb cb ((Fu.M5 n).reapN 5 k) ∧ Fr w wr mb cb ∧ wr.heap[yb]? = some (.cells #[ptr mb, .int .i64 3, v] 27 (0, 0)) ∧ wr.heap[lb]? = some (.cells #[.int .i64 3] 3 (0, 0))) (fun i _ => 3 + n - (intOf i).toNat)
      case atStart => exact ⟨0, by omega, rfl, h.drewN _, HFw.out.drewN _, KY.out, KL.out⟩
      case round =>
        clear h HFw KY KL hA V5 hlen
        obtain ⟨k, hk, rfl, h, hFw, ky, kl⟩ := hrel
        have hlen := Lib.hid ((M.reapN_len (Fu.M5 n) 5 k).trans C5.out)
        by_cases hlt : k < 3 + n
        · have g2 : decide (k < 3 + n) = true := decide_eq_true hlt
          go_wp2_with fail
          refine (pCells h.A h.P hlen.out).mono ?_
          rintro e w1 ⟨rfl, rfl⟩
          go_wp2_with fail
          refine (qReap h k 5).mono ?_
          rintro e W8 ⟨rfl, h8, hF⟩
          have ky8 := hF.blk h.A ky (by decide) (by decide)
          have kl8 := hF.blk h.A kl (by decide) (by decide)
          have HF8 := Lib.hid (hFw.trans hF)
          clear ky kl h hF hFw
          go_wp2_with fail
          go_roundw
          case rel => exact ⟨k + 1, by omega, by go_num, h8, HF8.out, ky8, kl8⟩
          case measure => simp [intOf]; omega
        · obtain rfl : k = 3 + n := by omega
          have g2 : decide (3 + n < 3 + n) = false := decide_eq_false (by omega)
          have h' : St w0 wr pb mb cb (Fu.M6 n) := h
          go_wp2_with fail
          refine (pCells h.A h.P hlen.out).mono ?_
          rintro e w1 ⟨rfl, rfl⟩
          clear h hlen
          go_wp2_with fail
          refine (dload_calls h' (Fu.o6 n hn hn') 65541).mono ?_
          rw [Fu.e7 n hn hn']
          rintro e W9 ⟨rfl, h9, hF⟩
          have ky9 := hF.blk h'.A ky (by decide) (by decide)
          have kl9 := hF.blk h'.A kl (by decide) (by decide)
          have HF9 := Lib.hid (hFw.trans hF)
          obtain ⟨X, hX⟩ : ∃ X : World, X = W9.alloc (.cells #[.int .i64 0, .int .i64 0, .int .i64 0, .slice none 0 0] 51) := ⟨_, rfl⟩
          have hb : Below W9.heap.size W9 X := hX ▸ below_alloc (Below.refl _ _) _
          obtain ⟨y0, y1, y2⟩ := box3 (blk_below ky9 hb)
          have kl10 := blk_below kl9 hb
          have l0 := box1 kl10
          have hA := h9.A.below hb
          have HF10 := Lib.hid (HF9.out.trans (Fr.of_below hb mb cb))
          have KL := Lib.hid kl10
          have HX := Lib.hid hX
          have V7 := Lib.hid (Fu.v7 n hn hn')
          clear ky kl h' hF hFw ky9 kl9 kl10 hb hX h9 HF9
          go_upto_region 20 with fail
          rw [← HX.out]
          clear HX
          go_quiet ((go_at_call 36; exact live_quiet' hA V7.out _))
          go_wp2_with fail
          go_ret
          exact ⟨rfl, HF10.out.drewN _, KL.out⟩
theorem Full_fn {n : Nat} (hn : n ≤ 5) (h : St w0 w pb mb cb (Fu.M0 n)) {nb yb lb : Nat} {v : Value} (kn : w.heap[nb]? = some (.cells #[.int .i64 n] 3 (0, 0))) (ky : w.heap[yb]? = some (.cells #[ptr mb, .int .i64 3, v] 27 (0, 0))) (kl : w.heap[lb]? = some (.cells #[.int .i64 3] 3 (0, 0))) :
    Calls Try.prog 37 #[ptr pb, .pointer (some ⟨nb, 0, none⟩), .pointer (some ⟨yb, 0, none⟩), .pointer (some ⟨lb, 0, none⟩)] w fun e w' => e = .returned (.iface 4 (.bool true)) ∧ Fr w w' mb cb ∧ w'.heap[lb]? = some (.cells #[.int .i64 3] 3 (0, 0)) := by
  by_cases hn' : n ≤ 1
  · exact Full_no hn' h kn ky kl
  · exact Full_yes (by omega) hn h kn ky kl
set_option maxHeartbeats 3200000 in
set_option maxRecDepth 100000 in
theorem DescFull_walk (x : Int) (h0 : 0 ≤ x) (h1 : x < 256) (w : World) : Calls Try.prog 6 #[.int .u8 x] w fun e w' => e = .returned (.bool true) ∧ Below w.heap.size w w' := by
  obtain ⟨n, hn⟩ : ∃ n : Nat, x % 6 = (n : Int) := ⟨(x % 6).toNat, by omega⟩
  have hn5 : n ≤ 5 := by omega
  have HN := Lib.hid hn
  clear hn
  have hnb : (n : Int) ≤ 5 := by omega
  go_enter Try.func6, Try.ntmps6
  go_wp2_with fail
  refine (awake14_calls w).mono ?_
  rintro e w1 ⟨rfl, hB0⟩
  go_wp2_with fail
  rw [HN.out, show (3 + (n : Int)) = ((3 + n : Nat) : Int) by omega]
  obtain ⟨X1, hX1⟩ : ∃ X1 : World, X1 = w1.alloc (.cells #[.int .i64 n] 3) := ⟨_, rfl⟩
  have hb1 : Below w1.heap.size w1 X1 := hX1 ▸ below_alloc (Below.refl _ _) _
  have kn1 : X1.heap[w1.heap.size]? = some (.cells #[.int .i64 n] 3 (0, 0)) := hX1 ▸ blk_new _ _
  have hB1 := below_then hB0 hB0.size hb1
  rw [← hX1]
  clear hX1 hb1 hB0
  refine (Lay_calls (c := 3 + n) (n := 0) (by omega) (by omega) (by decide) (Fu.a0 n hn5) (Fu.a1 n hn5) rfl X1).mono ?_
  rintro e W1 ⟨mb, cb, A, cc, rfl, hA, hO, hB, hmb, hcb⟩
  have kn2 := blk_below kn1 hB
  have hB2 := below_then hB1 hB1.size hB
  have hs1 := hB1.size
  obtain ⟨W2, hW2⟩ : ∃ W2 : World, W2 = W1.alloc (.cells #[ptr mb, .int .i64 3, .slice A 0 cc] 27) := ⟨_, rfl⟩
  have hb : Below W1.heap.size W1 W2 := hW2 ▸ below_alloc (Below.refl _ _) _
  have ky : W2.heap[W1.heap.size]? = some (.cells #[ptr mb, .int .i64 3, .slice A 0 cc] 27 (0, 0)) := hW2 ▸ blk_new _ _
  have hA2 := hA.below hb
  have kn3 := blk_below kn2 hb
  have hB3 := below_then hB2 hB2.size hb
  have HW2 := Lib.hid hW2
  obtain ⟨y0, y1, y2⟩ := box3 ky
  have V0 := Lib.hid (Fu.v0 n hn5)
  clear hb hW2 hA hO hB kn1 kn2 hB1 hB2
  go_upto_region 5 with fail
  rw [← HW2.out]
  clear HW2
  go_wp2_with fail
  refine (live_is hA2 V0.out).mono ?_
  rintro e w2 ⟨rfl, rfl⟩
  obtain ⟨W3, hW3⟩ : ∃ W3 : World, W3 = W2.alloc (.cells #[.int .i64 3] 3) := ⟨_, rfl⟩
  have hb : Below W2.heap.size W2 W3 := hW3 ▸ below_alloc (Below.refl _ _) _
  have kl : W3.heap[W2.heap.size]? = some (.cells #[.int .i64 3] 3 (0, 0)) := hW3 ▸ blk_new _ _
  have ky3 := blk_below ky hb
  have kn4 := blk_below kn3 hb
  have hA3 := hA2.below hb
  have hB4 := below_then hB3 hB3.size hb
  have HW3 := Lib.hid hW3
  have hA4 := hA3.alloc (port0 mb)
  have hP4 : PD (W3.alloc (port0 mb)) W3.heap.size mb := blk_new _ _
  have HD := Lib.hid (do3_calls (mb := mb) (fun args W => enters_ Try.func37 (by kernel_rfl) rfl args W) (Full_fn hn5 (St.refl hA4 hP4) (blk_alloc kn4 (port0 mb)) (blk_alloc ky3 (port0 mb)) (blk_alloc kl (port0 mb))))
  obtain ⟨q0, q1, q2⟩ := box3 ky3
  have hmf := makeFunc_run
  have HB4 := Lib.hid hB4
  clear hb hW3 hA2 hA3 hA4 hP4 ky ky3 kn3 kn4 kl y0 y1 y2 hB3 hB4
  go_upto_region 8 with fail
  rw [← HW3.out]
  clear HW3
  go_wp2_with fail
  refine HD.out.mono ?_
  rintro e W5 ⟨rfl, hF, kl5⟩
  have hF3 := (Fr.of_below (below_alloc (Below.refl W3.heap.size W3) (port0 mb)) mb cb).trans hF
  have hBF : Below w.heap.size w W5 := ⟨hF3.os.trans HB4.out.os, hF3.tape.trans HB4.out.tape, hF3.output.trans HB4.out.output, Nat.le_trans HB4.out.size hF3.size, fun k hk => (hF3.block k (by have := HB4.out.size; omega) (by omega) (by omega)).trans (HB4.out.block k hk)⟩
  have HBF := Lib.hid hBF
  have l0 := box1 kl5
  clear hF3 hBF hF HD q0 q1 q2 kl5
  have hta := ta_bool true
  go_wp2_with fail
  go_ret
  exact ⟨rfl, HBF.out⟩
end
end Go.Proofs.Ytahnmklofgnagaa.Mem
