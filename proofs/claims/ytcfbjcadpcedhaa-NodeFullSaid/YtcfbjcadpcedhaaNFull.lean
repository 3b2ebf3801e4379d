/- NodeFull, by hand: where there is no room nothing is made, and no cell is left behind. -/
import Derived.Test.YtcfbjcadpcedhaaNFull0
import Derived.IntWalk
namespace Go.Proofs.Ytcfbjcadpcedhaa.Mem
open Go.RowKit Go.Proofs.YtcfbjcadpcedhaaW.PrintWords Go.Proofs.YtcfbjcadpcedhaaW.PrintLast Go.Proofs.Ytcfbjcadpcedhaa.Tags
set_option linter.unusedVariables false
set_option linter.unusedSimpArgs false
section
variable {w0 w w' : World} {pb mb cb : Nat} {m m' : M}
theorem live_q (h : At w mb cb m) {c : Int} (e : m.live = c) (n : Nat) : Calls Try.prog 16 #[ptr mb] (w.drewN n) fun e w'' => e = .returned (.int .i64 c) ∧ ∃ k, w'' = w.drewN k := by
  subst e
  exact (live_calls (h.drewN n)).mono fun _ _ ⟨h1, h2⟩ => ⟨h1, n, h2.symm⟩
set_option maxHeartbeats 6400000 in
set_option maxRecDepth 100000 in
theorem NodeFull_fn {n k : Nat} (hn : n < 20) (hk : k < 20) (h : St w0 w pb mb cb (M.new (n + 1))) {ba bb bm : Nat} (k1 : w.heap[ba]? = some (.cells #[.int .i64 k] 3 (0, 0))) (k2 : w.heap[bb]? = some (.cells #[.int .i64 ((n + 1 : Nat) : Int)] 3 (0, 0))) (k3 : w.heap[bm]? = some (.cells #[ptr mb] 23 (0, 0))) :
    Calls Try.prog 14 #[ptr pb, .pointer (some ⟨ba, 0, none⟩), .pointer (some ⟨bb, 0, none⟩), .pointer (some ⟨bm, 0, none⟩)] w fun e w' => e = .returned (.iface 4 (.bool true)) ∧ Fr w w' mb cb := by
  have x1 := box1 k1
  obtain ⟨xs, hxs⟩ : ∃ xs : List Int, xs = List.replicate k 0 := ⟨_, rfl⟩
  have hxl : xs.length = k := by rw [hxs]; simp
  obtain ⟨w1, hmk, hR, hB1⟩ := make_zeros hxs (by omega) w
  have h1 := h.below hB1
  have k1' := blk_below k1 hB1
  have k2' := blk_below k2 hB1
  have k3' := blk_below k3 hB1
  have HF1 := Lib.hid (Fr.of_below hB1 mb cb)
  have HXL := Lib.hid hxl
  have hxb : xs.length ≤ 900 := by omega
  clear hxs hxl hB1 k1 k2 k3 h
  go_enter Try.func14, Try.ntmps14
  go_wp2_with fail
  refine (make_calls h1 ⟨#[]⟩ 0 hR hxb).mono ?_
  rintro e W1 hE
  obtain ⟨M1, q, g, x, e3, rfl, hS1, hg, h2, hF2, hc⟩ := make_end (xs := xs) rfl (by omega) hE
  rw [HXL.out] at hc
  have l1 := hF2.blk h1.A k1' (by decide) (by decide)
  have l2 := hF2.blk h1.A k2' (by decide) (by decide)
  have l3 := hF2.blk h1.A k3' (by decide) (by decide)
  have HF2 := Lib.hid (HF1.out.trans hF2)
  have hlv := hS1.live
  have hA2 := h2.A
  clear hE hmk hR k1' k2' k3' hF2 h1 x1 hxb
  have x1 := box1 l1
  have x2 := box1 l2
  have x3 := box1 l3
  have HS1 := Lib.hid hS1
  clear hS1
  have hw1 : IntKind.i64.wrap ((k : Int) + 2) = (k : Int) + 2 := IntWalk.i64_in _ (by omega)
  rcases hc with ⟨hlt, rfl, rfl, rfl⟩ | ⟨hge, rfl, rfl⟩
  · have HLV := Lib.hid (show M1.live = 0 from hlv)
    have g1 : decide (((n + 1 : Nat) : Int) < (k : Int) + 2) = true := decide_eq_true (by omega)
    have hw2 : IntKind.i64.wrap (((n + 1 : Nat) : Int) - 0) = ((n + 1 : Nat) : Int) - 0 := IntWalk.i64_in _ (by omega)
    clear hlv
    go_wp2_with fail
    refine (live_w hA2 HLV.out).mono ?_
    rintro e w3 ⟨rfl, rfl⟩
    go_upto_region 7 with fail
    go_quiet ((go_at_call 16; exact live_q hA2 HLV.out _))
    go_wp2_with fail
    have h7 := h2.drewN nq
    refine (live_w h7.A HLV.out).mono ?_
    rintro e w7 ⟨rfl, rfl⟩
    go_wp2_with fail
    refine (tomb_calls 1 _).mono ?_
    rintro e W5 ⟨rfl, hB5⟩
    have h8 := h7.below hB5
    obtain ⟨M2, x5, e5, hL, hc5⟩ := lay_end h8 HS1.out hg 1 true 0
    have HF8 := Lib.hid ((HF2.out.drewN nq).trans (Fr.of_below hB5 mb cb))
    have kq1 := blk_below (show (W1.drewN nq).heap[bm]? = some (.cells #[ptr mb] 23 (0, 0)) from l3) hB5
    have HB5 := Lib.hid hB5
    clear hB5 h7
    go_wp2_with fail
    refine hL.mono ?_
    rintro e W6 ⟨rfl, h9, hF9⟩
    have z3 := box1 (hF9.blk h8.A kq1 (by decide) (by decide))
    have HF9 := Lib.hid (HF8.out.trans hF9)
    clear hL h8 hF9 kq1
    rcases hc5 with ⟨hlt5, rfl, rfl, hlv5⟩ | ⟨hge5, rfl, hlv5⟩
    · have g5 : decide (((n + 1 : Nat) : Int) - 0 < 2) = true := decide_eq_true (by omega)
      have HLV5 := Lib.hid hlv5
      clear hlv5
      go_wp2_with fail
      refine (live_w h9.A HLV5.out).mono ?_
      rintro e w10 ⟨rfl, rfl⟩
      go_wp2_with fail
      go_ret
      exact ⟨rfl, HF9.out⟩
    · have g5 : decide (((n + 1 : Nat) : Int) - 0 < 2) = false := decide_eq_false (by omega)
      have HLV5 := Lib.hid hlv5
      clear hlv5
      go_wp2_with fail
      refine (live_w h9.A HLV5.out).mono ?_
      rintro e w10 ⟨rfl, rfl⟩
      go_wp2_with fail
      go_ret
      exact ⟨rfl, HF9.out⟩
  · have HLV := Lib.hid (show M1.live = (k : Int) + 2 by rw [hlv]; omega)
    have g1 : decide (((n + 1 : Nat) : Int) < (k : Int) + 2) = false := decide_eq_false (by omega)
    have hw2 : IntKind.i64.wrap (((n + 1 : Nat) : Int) - ((k : Int) + 2)) = ((n + 1 : Nat) : Int) - ((k : Int) + 2) := IntWalk.i64_in _ (by omega)
    have hw3 : IntKind.i64.wrap ((k : Int) + 2 + 2) = (k : Int) + 2 + 2 := IntWalk.i64_in _ (by omega)
    clear hlv
    go_upto_region 5 with fail
    go_quiet ((go_at_call 16; exact live_q hA2 HLV.out _))
    have h3 := h2.drewN nq
    have hA3 := h3.A
    have HF3 := Lib.hid (HF2.out.drewN nq)
    have l31 : (W1.drewN nq).heap[ba]? = some (.cells #[.int .i64 k] 3 (0, 0)) := l1
    have l32 : (W1.drewN nq).heap[bb]? = some (.cells #[.int .i64 ((n + 1 : Nat) : Int)] 3 (0, 0)) := l2
    have l33 : (W1.drewN nq).heap[bm]? = some (.cells #[ptr mb] 23 (0, 0)) := l3
    obtain ⟨W2, hW2⟩ : ∃ W2, W1.drewN nq = W2 := ⟨_, rfl⟩
    rw [hW2] at h3 hA3 HF3 l31 l32 l33 ⊢
    clear hW2 x1 x2 x3 hA2 h2 l1 l2 l3
    have x1 := box1 l31
    have x2 := box1 l32
    have x3 := box1 l33
    go_upto_region 7 with fail
    go_quiet ((go_at_call 16; exact live_q hA3 HLV.out _))
    go_wp2_with fail
    have h7 := h3.drewN nq
    refine (live_w h7.A HLV.out).mono ?_
    rintro e w7 ⟨rfl, rfl⟩
    go_wp2_with fail
    refine (tomb_calls 1 _).mono ?_
    rintro e W5 ⟨rfl, hB5⟩
    have h8 := h7.below hB5
    obtain ⟨M2, x5, e5, hL, hc5⟩ := lay_end h8 HS1.out hg 1 true 0
    have HF8 := Lib.hid ((HF3.out.drewN nq).trans (Fr.of_below hB5 mb cb))
    have kq1 := blk_below (show (W2.drewN _).heap[bm]? = some (.cells #[ptr mb] 23 (0, 0)) from l33) hB5
    have HB5 := Lib.hid hB5
    clear hB5 h7
    go_wp2_with fail
    refine hL.mono ?_
    rintro e W6 ⟨rfl, h9, hF9⟩
    have z3 := box1 (hF9.blk h8.A kq1 (by decide) (by decide))
    have HF9 := Lib.hid (HF8.out.trans hF9)
    clear hL h8 hF9 kq1
    rcases hc5 with ⟨hlt5, rfl, rfl, hlv5⟩ | ⟨hge5, rfl, hlv5⟩
    · have g5 : decide (((n + 1 : Nat) : Int) - ((k : Int) + 2) < 2) = true := decide_eq_true (by omega)
      have HLV5 := Lib.hid hlv5
      clear hlv5
      go_wp2_with fail
      refine (live_w h9.A HLV5.out).mono ?_
      rintro e w10 ⟨rfl, rfl⟩
      go_wp2_with fail
      go_ret
      exact ⟨rfl, HF9.out⟩
    · have g5 : decide (((n + 1 : Nat) : Int) - ((k : Int) + 2) < 2) = false := decide_eq_false (by omega)
      have HLV5 := Lib.hid hlv5
      clear hlv5
      go_wp2_with fail
      refine (live_w h9.A HLV5.out).mono ?_
      rintro e w10 ⟨rfl, rfl⟩
      go_wp2_with fail
      go_ret
      exact ⟨rfl, HF9.out⟩
set_option maxHeartbeats 3200000 in
set_option maxRecDepth 100000 in
theorem NodeFull_walk (x y : Int) (hx0 : 0 ≤ x) (hx1 : x < 256) (hy0 : 0 ≤ y) (hy1 : y < 256) (w : World) : Calls Try.prog 3 #[.int .u8 x, .int .u8 y] w fun e w' => e = .returned (.bool true) ∧ Below w.heap.size w w' := by
  obtain ⟨r, hr⟩ : ∃ n : Nat, x % 20 = (n : Int) := ⟨(x % 20).toNat, by omega⟩
  obtain ⟨a, ha⟩ : ∃ n : Nat, y % 20 = (n : Int) := ⟨(y % 20).toNat, by omega⟩
  have hr5 : r < 20 := by omega
  have ha5 : a < 20 := by omega
  have HR := Lib.hid hr
  have HA := Lib.hid ha
  clear hr ha
  go_enter Try.func3, Try.ntmps3
  go_wp2_with fail
  refine (nawake_calls w).mono ?_
  rintro e w1 ⟨rfl, hB0⟩
  have HB0 := Lib.hid hB0
  obtain ⟨W2, hW2⟩ : ∃ W2 : World, W2 = (w1.alloc (.cells #[.int .i64 (1 + x % 20)] 3)).alloc (.cells #[.int .i64 (y % 20)] 3) := ⟨_, rfl⟩
  have hbel : Below w1.heap.size w1 W2 := hW2 ▸ below_alloc (below_alloc (Below.refl _ _) _) _
  have kR : W2.heap[w1.heap.size]? = some (.cells #[.int .i64 ((r + 1 : Nat) : Int)] 3 (0, 0)) := by
    rw [show ((r + 1 : Nat) : Int) = 1 + x % 20 by rw [HR.out]; omega, hW2]
    exact blk_alloc (blk_new _ _) _
  have kA : W2.heap[w1.heap.size + 1]? = some (.cells #[.int .i64 a] 3 (0, 0)) := by
    have e : w1.heap.size + 1 = (w1.alloc (.cells #[.int .i64 (1 + x % 20)] 3)).heap.size := by simp
    rw [e, ← HA.out, hW2]
    exact blk_new _ _
  have HB2 := Lib.hid (below_then hB0 hB0.size hbel)
  have HW2 := Lib.hid hW2
  have x1 := box1 kR
  have hs0 := hB0.size
  have hs2 := hbel.size
  clear hW2 hB0 hbel
  go_upto_region 4 with fail
  rw [← HW2.out]
  clear HW2
  go_wp2_with fail
  refine (New_calls (r + 1) W2 (by omega) (by omega)).mono ?_
  rintro e W3 ⟨rfl, hA3, hB3⟩
  obtain ⟨mb, hmb⟩ : ∃ b, b = W2.heap.size + 1 := ⟨_, rfl⟩
  obtain ⟨cb, hcb⟩ : ∃ b, b = W2.heap.size := ⟨_, rfl⟩
  rw [← hmb, ← hcb] at hA3
  rw [← hmb]
  have hmb' : w.heap.size ≤ mb := by omega
  have hcb' : w.heap.size ≤ cb := by omega
  have kR3 := blk_below kR hB3
  have kA3 := blk_below kA hB3
  have HB3 := Lib.hid (below_then HB2.out HB2.out.size hB3)
  obtain ⟨W4, hW4⟩ : ∃ W4 : World, W4 = W3.alloc (.cells #[ptr mb] 23) := ⟨_, rfl⟩
  have hbel : Below W3.heap.size W3 W4 := hW4 ▸ below_alloc (Below.refl _ _) _
  have kM : W4.heap[W3.heap.size]? = some (.cells #[ptr mb] 23 (0, 0)) := hW4 ▸ blk_new _ _
  have kR4 := blk_below kR3 hbel
  have kA4 := blk_below kA3 hbel
  have hA4 := hA3.below hbel
  have HB4 := Lib.hid (below_then HB3.out HB3.out.size hbel)
  have x3 := box1 kM
  have HW4 := Lib.hid hW4
  clear hW4 hbel hB3 hmb hcb x1 kR kA kR3 kA3 hA3
  have hA5 := hA4.alloc (port0 mb)
  have hP5 : PD (W4.alloc (port0 mb)) W4.heap.size mb := blk_new _ _
  have HD := Lib.hid (do3_calls (mb := mb) (fun args W => enters_ Try.func14 (by kernel_rfl) rfl args W) (NodeFull_fn hr5 ha5 (St.refl hA5 hP5) (blk_alloc kA4 (port0 mb)) (blk_alloc kR4 (port0 mb)) (blk_alloc kM (port0 mb))))
  have hmf := makeFunc_run
  have hta := ta_bool true
  clear kM kR4 kA4 hA4 hA5 hP5
  go_upto_region 5 with fail
  rw [← HW4.out]
  clear HW4
  go_wp2_with fail
  refine HD.out.mono ?_
  rintro e W5 ⟨rfl, hF⟩
  have hF5 := (Fr.of_below (below_alloc (Below.refl W4.heap.size W4) (port0 mb)) mb cb).trans hF
  have HBF := Lib.hid (hF5.over HB4.out HB4.out.size (by omega) (by omega))
  clear hF5 hF HD x3
  go_wp2_with fail
  go_ret
  exact ⟨rfl, HBF.out⟩
end
end Go.Proofs.Ytcfbjcadpcedhaa.Mem
