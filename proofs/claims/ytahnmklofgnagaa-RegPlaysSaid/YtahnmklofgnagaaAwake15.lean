/- rundlelaw15: publish, and the document's example of registers. -/
import Derived.Test.YtahnmklofgnagaaLay15
namespace Go.Proofs.Ytahnmklofgnagaa.Mem
open Go.RowKit Go.Proofs.YtahnmklofgnagaaW.PrintWords Go.Proofs.YtahnmklofgnagaaW.PrintLast Go.Proofs.Ytahnmklofgnagaa.Tags
set_option linter.unusedVariables false
set_option linter.unusedSimpArgs false
section
variable {w0 w w' : World} {pb mb cb : Nat} {m m' : M}
set_option maxHeartbeats 3200000 in
set_option maxRecDepth 100000 in
theorem publish_fn (h : St w0 w pb mb cb m) (ho : m.okd = true) {M1 M2 M3 M4 M5 M6 : M} {top hh va vb vc gg na nb nc : Int} {vA : Option Addr} {vn vk : Nat} {b5 : Bool} {more : Int} (hv : 0 ≤ va) (hv' : va ≤ 1000000000000) (hm : 0 ≤ more) (hm' : more ≤ 1000000000000)
    (e1 : m.latest top = (M1, hh, ⟨va, vb, vc, vA, vn, vk⟩, true, 0)) (e2 : M1.laid 0 ⟨va + 1 + more, va, 0, none, 0, 0⟩ = (M2, gg, 0)) (e3 : M2.swap top hh gg = (M3, true, 0)) (o3 : M3.okd = true) (e4 : M3.dload gg = (M4, ⟨na, nb, nc, none, 0, 0⟩, 0)) (e5 : M4.swap nc 0 1 = (M5, b5, 0)) (o5 : M5.okd = true) (e6 : M5.undo hh = (M6, 0))
    {yb bm : Nat} {s1 s2 : Value} (k : w.heap[yb]? = some (.cells #[ptr mb, .int .i64 top, s1, s2] 86 (0, 0))) (km : w.heap[bm]? = some (.cells #[.int .i64 more] 3 (0, 0))) :
    Calls Try.prog 99 #[ptr pb, .pointer (some ⟨yb, 0, none⟩), .pointer (some ⟨bm, 0, none⟩)] w fun e w' => e = .returned (.iface 4 (.bool true)) ∧ (St w0 w' pb mb cb M6 ∧ Fr w w' mb cb) := by
  have y1 := (box4 k).2.1
  have HE1 := Lib.hid e1
  have HE2 := Lib.hid e2
  have HE3 := Lib.hid e3
  have HE4 := Lib.hid e4
  have HE5 := Lib.hid e5
  have HE6 := Lib.hid e6
  clear e1 e2 e3 e4 e5 e6
  go_enter Try.func99, Try.ntmps99
  go_wp2_with fail
  refine (latest_calls h ho top).mono ?_
  rw [HE1.out]
  rintro e W1 ⟨rfl, h1, hF⟩
  obtain ⟨W2, hW2⟩ : ∃ W2 : World, W2 = W1.alloc (.cells #[.int .i64 va, .int .i64 vb, .int .i64 vc, .slice vA vn vk] 51) := ⟨_, rfl⟩
  have hb : Below W1.heap.size W1 W2 := hW2 ▸ below_alloc (Below.refl _ _) _
  have k2 := blk_below (hF.blk h.A k (by decide) (by decide)) hb
  have km2 := blk_below (hF.blk h.A km (by decide) (by decide)) hb
  have x2 : W2.heap[W1.heap.size]? = some (.cells #[.int .i64 va, .int .i64 vb, .int .i64 vc, .slice vA vn vk] 51 (0, 0)) := hW2 ▸ blk_new _ _
  have h2 := h1.below hb
  have HF2 := Lib.hid (hF.trans (Fr.of_below hb mb cb))
  have HW2 := Lib.hid hW2
  clear y1 k km hF h h1 hb hW2
  go_upto_region 2 with fail
  rw [← HW2.out]
  clear HW2
  obtain ⟨x0, x1, x2_, x3⟩ := box4 x2
  have m0 := box1 km2
  go_wp2_with fail
  refine (make_nil h2 (va + 1 + more) va).mono ?_
  rw [HE2.out]
  rintro e W3 ⟨rfl, h3, hF⟩
  have k3 := hF.blk h2.A k2 (by decide) (by decide)
  have HF3 := Lib.hid (HF2.out.trans hF)
  clear x0 x1 x2_ x3 m0 k2 km2 x2 hF h2 HF2
  have y1 := (box4 k3).2.1
  go_wp2_with fail
  refine (publish_calls h3 top hh gg).mono ?_
  rw [HE3.out]
  rintro e W4 ⟨rfl, h4, hF⟩
  have k4 := hF.blk h3.A k3 (by decide) (by decide)
  have HF4 := Lib.hid (HF3.out.trans hF)
  clear y1 k3 hF h3 HF3
  go_wp2_with fail
  refine (dload_calls h4 o3 gg).mono ?_
  rw [HE4.out]
  rintro e W5 ⟨rfl, h5, hF⟩
  obtain ⟨W6, hW6⟩ : ∃ W6 : World, W6 = W5.alloc (.cells #[.int .i64 na, .int .i64 nb, .int .i64 nc, .slice none 0 0] 51) := ⟨_, rfl⟩
  have hb : Below W5.heap.size W5 W6 := hW6 ▸ below_alloc (Below.refl _ _) _
  have x6 : W6.heap[W5.heap.size]? = some (.cells #[.int .i64 na, .int .i64 nb, .int .i64 nc, .slice none 0 0] 51 (0, 0)) := hW6 ▸ blk_new _ _
  have h6 := h5.below hb
  have HF6 := Lib.hid ((HF4.out.trans hF).trans (Fr.of_below hb mb cb))
  have HW6 := Lib.hid hW6
  clear k4 hF h4 h5 hb hW6 HF4
  go_upto_region 7 with fail
  rw [← HW6.out]
  clear HW6
  obtain ⟨x0, x1, x2_, x3⟩ := box4 x6
  go_wp2_with fail
  refine (help_nil h6 na nb nc).mono ?_
  rw [HE5.out]
  rintro e W7 ⟨rfl, h7, hF⟩
  have HF7 := Lib.hid (HF6.out.trans hF)
  clear x0 x1 x2_ x3 x6 hF h6 HF6
  go_wp2_with fail
  refine (undo_calls h7 o5 hh).mono ?_
  rw [HE6.out]
  rintro e W8 ⟨rfl, h8, hF⟩
  have HF8 := Lib.hid (HF7.out.trans hF)
  clear hF h7 HF7
  go_wp2_with fail
  go_ret
  exact ⟨rfl, h8, HF8.out⟩
set_option maxHeartbeats 3200000 in
set_option maxRecDepth 100000 in
theorem publishY_calls (hA : At w mb cb m) (ho : m.okd = true) {M1 M2 M3 M4 M5 M6 : M} {top hh va vb vc gg na nb nc : Int} {vA : Option Addr} {vn vk : Nat} {b5 : Bool} {more : Int} (hv : 0 ≤ va) (hv' : va ≤ 1000000000000) (hm : 0 ≤ more) (hm' : more ≤ 1000000000000)
    (e1 : m.latest top = (M1, hh, ⟨va, vb, vc, vA, vn, vk⟩, true, 0)) (e2 : M1.laid 0 ⟨va + 1 + more, va, 0, none, 0, 0⟩ = (M2, gg, 0)) (e3 : M2.swap top hh gg = (M3, true, 0)) (o3 : M3.okd = true) (e4 : M3.dload gg = (M4, ⟨na, nb, nc, none, 0, 0⟩, 0)) (e5 : M4.swap nc 0 1 = (M5, b5, 0)) (o5 : M5.okd = true) (e6 : M5.undo hh = (M6, 0))
    (A B : Option Addr) (n1 c1 n2 c2 : Nat) :
    Calls Try.prog 57 #[.agg #[ptr mb, .int .i64 top, .slice A n1 c1, .slice B n2 c2], .int .i64 more] w fun e w' => e = .returned (.bool true) ∧ At w' mb cb M6 ∧ Fr w w' mb cb := by
  obtain ⟨W, hW⟩ : ∃ W : World, W = (w.alloc (.cells #[ptr mb, .int .i64 top, .slice A n1 c1, .slice B n2 c2] 86)).alloc (.cells #[.int .i64 more] 3) := ⟨_, rfl⟩
  have hb : Below w.heap.size w W := hW ▸ below_alloc (below_alloc (Below.refl _ _) _) _
  have kY : W.heap[w.heap.size]? = some (.cells #[ptr mb, .int .i64 top, .slice A n1 c1, .slice B n2 c2] 86 (0, 0)) := hW ▸ blk_alloc (blk_new _ _) _
  have kM : W.heap[w.heap.size + 1]? = some (.cells #[.int .i64 more] 3 (0, 0)) := by
    have e : w.heap.size + 1 = (w.alloc (.cells #[ptr mb, .int .i64 top, .slice A n1 c1, .slice B n2 c2] 86)).heap.size := by simp
    rw [e]
    exact hW ▸ blk_new _ _
  have hA1 := hA.below hb
  have HW := Lib.hid hW
  have HF := Lib.hid (Fr.of_below hb mb cb)
  have hA2 := hA1.alloc (port0 mb)
  have hP2 : PD (W.alloc (port0 mb)) W.heap.size mb := blk_new _ _
  have HD := Lib.hid (do2_calls (mb := mb) (fun args W => enters_ Try.func99 (by kernel_rfl) rfl args W) (publish_fn (St.refl hA2 hP2) ho hv hv' hm hm' e1 e2 e3 o3 e4 e5 o5 e6 (blk_alloc kY (port0 mb)) (blk_alloc kM (port0 mb))))
  have HP := Lib.hid (Fr.of_below (below_alloc (Below.refl W.heap.size W) (port0 mb)) mb cb)
  obtain ⟨y0, y1, y2, y3⟩ := box4 kY
  have hmf := makeFunc_run
  have hta := ta_bool true
  clear hW hb hA hA1 hA2 hP2 kY kM e1 e2 e3 e4 e5 e6 ho o3 o5
  go_enter Try.func57, Try.ntmps57
  go_upto_region 1 with fail
  rw [← HW.out]
  clear HW
  go_wp2_with fail
  refine HD.out.mono ?_
  rintro e W2 ⟨rfl, hS, hF⟩
  have HF2 := Lib.hid ((HF.out.trans HP.out).trans hF)
  have HA := Lib.hid hS.A
  clear y0 y1 y2 y3 HD HP hS hF HF
  go_wp2_with fail
  go_ret
  exact ⟨rfl, HA.out, HF2.out⟩
end
namespace Ax
def L : M := ((M.new 200).laid 1 D.z).1
def M0 : M := (L.alloc (number 2)).1
def R0 : M := (M0.reg 2 1).1
def P1 : M := (R0.latest 3).1
def P2 : M := (P1.laid 0 ⟨4, 0, 0, none, 0, 0⟩).1
def P3 : M := (P2.swap 3 2 8).1
def P4 : M := (P3.dload 8).1
def P5 : M := (P4.swap 7 0 1).1
def P6 : M := (P5.undo 2).1
def Q1 : M := (P6.version 3).1
def Q2 : M := (Q1.lowest 4 4294967295 4 [4, 5]).1
def Q3 : M := (Q2.lowest 4 4294967295 4 [6]).1
def Q4 : M := (Q3.lowest 4 4294967295 4 [4, 5]).1
def Q5 : M := (Q4.oldest [4, 5] 0).1
theorem e0 : (M.new 200).laid 1 D.z = (L, 2, 0) := by kernel_rfl
theorem e0' : L.alloc (number 2) = (M0, 3, 0) := by kernel_rfl
theorem r0 : M0.reg 2 1 = (R0, [4, 5], [6], 0) := by kernel_rfl
theorem o0 : R0.okd = true := by kernel_rfl
theorem p1 : R0.latest 3 = (P1, 2, ⟨0, 0, 1, none, 0, 0⟩, true, 0) := by kernel_rfl
theorem p2 : P1.laid 0 ⟨0 + 1 + 3, 0, 0, none, 0, 0⟩ = (P2, 8, 0) := by kernel_rfl
theorem p3 : P2.swap 3 2 8 = (P3, true, 0) := by kernel_rfl
theorem o3 : P3.okd = true := by kernel_rfl
theorem p4 : P3.dload 8 = (P4, ⟨4, 0, 7, none, 0, 0⟩, 0) := by kernel_rfl
theorem p5 : P4.swap 7 0 1 = (P5, true, 0) := by kernel_rfl
theorem o5 : P5.okd = true := by kernel_rfl
theorem p6 : P5.undo 2 = (P6, 0) := by kernel_rfl
theorem o6 : P6.okd = true := by kernel_rfl
theorem q1 : P6.version 3 = (Q1, 4, 0) := by kernel_rfl
theorem q2 : Q1.lowest (slotOf [4, 5] 0).1 4294967295 4 [4, 5] = (Q2, 4, 0) := by kernel_rfl
theorem q3 : Q2.lowest (slotOf [4, 5] 0).1 4294967295 4 [6] = (Q3, 4, 0) := by kernel_rfl
theorem q4 : Q3.lowest (slotOf [4, 5] 0).1 4294967295 4 [4, 5] = (Q4, 4, 0) := by kernel_rfl
theorem q5 : Q4.oldest [4, 5] 0 = (Q5, 1073741825, 0) := by kernel_rfl
end Ax
section
variable {w0 w w' : World} {pb mb cb : Nat} {m m' : M}
set_option maxHeartbeats 3200000 in
set_option maxRecDepth 100000 in
theorem awake15_fn (h : St w0 w pb mb cb Ax.P6) {base ca cc : Nat} {A B : Option Addr} (hR : RegAt w base A ca B cc [4, 5] [6]) {yb : Nat} (k : w.heap[yb]? = some (.cells #[ptr mb, .int .i64 3, .slice A 2 ca, .slice B 1 cc] 86 (0, 0))) :
    Calls Try.prog 93 #[ptr pb, .pointer (some ⟨yb, 0, none⟩)] w fun e w' => e = .returned (.iface 4 (.bool true)) ∧ Fr w w' mb cb := by
  obtain ⟨y0, y1, y2, y3⟩ := box4 k
  go_enter Try.func93, Try.ntmps93
  go_wp2_with fail
  refine (least_ok h Ax.o6 hR 3 0 Ax.q1 Ax.q2 Ax.q3 Ax.q4).mono ?_
  rintro e W1 ⟨rfl, h1, hF⟩
  have k1 := hF.blk h.A k (by decide) (by decide)
  have hR1 := hR.fr h.A hF
  have HF1 := Lib.hid hF
  clear y0 y1 y2 y3 k hF h hR
  obtain ⟨y0, y1, y2, y3⟩ := box4 k1
  go_wp2_with fail
  refine (oldest_calls h1 hR1 3 0).mono ?_
  rw [Ax.q5]
  rintro e W2 ⟨rfl, h2, hF⟩
  have HF2 := Lib.hid (HF1.out.trans hF)
  clear y0 y1 y2 y3 k1 hF h1 hR1
  go_wp2_with fail
  go_ret
  exact ⟨rfl, HF2.out⟩
set_option maxHeartbeats 3200000 in
set_option maxRecDepth 100000 in
theorem awake15_calls (w : World) : Calls Try.prog 45 #[] w fun e w' => e = .returned (.bool true) ∧ Below w.heap.size w w' := by
  go_enter Try.func45, Try.ntmps45
  go_wp2_with fail
  refine (lay15_calls (a := 2) (b := 1) (by decide) (by decide) (by decide) Ax.e0 Ax.e0' Ax.r0 (by decide) (by decide) w).mono ?_
  rintro e W1 ⟨mb, cb, A, ca, B, cc, rfl, hA, hR, hB, hmb, hcb⟩
  obtain ⟨W2, hW2⟩ : ∃ W2 : World, W2 = W1.alloc (.cells #[ptr mb, .int .i64 3, .slice A 2 ca, .slice B 1 cc] 86) := ⟨_, rfl⟩
  have hb : Below W1.heap.size W1 W2 := hW2 ▸ below_alloc (Below.refl _ _) _
  have k2 : W2.heap[W1.heap.size]? = some (.cells #[ptr mb, .int .i64 3, .slice A 2 ca, .slice B 1 cc] 86 (0, 0)) := hW2 ▸ blk_new _ _
  have hA2 := hA.below hb
  have hR2 := hR.below hb
  have HB2 := Lib.hid (below_then hB hB.size hb)
  have HW2 := Lib.hid hW2
  obtain ⟨y0, y1, y2, y3⟩ := box4 k2
  clear hb hW2 hA hR hB
  go_upto_region 2 with fail
  rw [← HW2.out]
  clear HW2
  go_wp2_with fail
  refine (publishY_calls hA2 Ax.o0 (by decide) (by decide) (by decide) (by decide) Ax.p1 Ax.p2 Ax.p3 Ax.o3 Ax.p4 Ax.p5 Ax.o5 Ax.p6 A B 2 ca 1 cc).mono ?_
  rintro e W3 ⟨rfl, hA3, hF⟩
  have k3 := hF.blk hA2 k2 (by decide) (by decide)
  have hR3 := hR2.fr hA2 hF
  have HF3 := Lib.hid hF
  clear y0 y1 y2 y3 k2 hF hA2 hR2
  obtain ⟨y0, y1, y2, y3⟩ := box4 k3
  have hA4 := hA3.alloc (port0 mb)
  have hP4 : PD (W3.alloc (port0 mb)) W3.heap.size mb := blk_new _ _
  have HD := Lib.hid (do1_calls (mb := mb) (fun args W => enters_ Try.func93 (by kernel_rfl) rfl args W) (awake15_fn (St.refl hA4 hP4) (hR3.below (below_alloc (Below.refl _ _) (port0 mb))) (blk_alloc k3 (port0 mb))))
  have hmf := makeFunc_run
  have hta := ta_bool true
  clear hA4 hP4 hA3 hR3 k3
  go_wp2_with fail
  refine HD.out.mono ?_
  rintro e W5 ⟨rfl, hF⟩
  have hF5 := (HF3.out.trans (Fr.of_below (below_alloc (Below.refl W3.heap.size W3) (port0 mb)) mb cb)).trans hF
  have HBF := Lib.hid (show Below w.heap.size w W5 from ⟨hF5.os.trans HB2.out.os, hF5.tape.trans HB2.out.tape, hF5.output.trans HB2.out.output, Nat.le_trans HB2.out.size hF5.size, fun k hk => (hF5.block k (by have := HB2.out.size; omega) (by omega) (by omega)).trans (HB2.out.block k hk)⟩)
  clear hF5 hF y0 y1 y2 y3 HD
  go_wp2_with fail
  go_ret
  exact ⟨rfl, HBF.out⟩
end
end Go.Proofs.Ytahnmklofgnagaa.Mem
