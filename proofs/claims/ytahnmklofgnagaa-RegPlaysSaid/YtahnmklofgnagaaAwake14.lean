/- The document's example of descriptors (rundlelaw14.awake). -/
import Derived.Test.YtahnmklofgnagaaLay14
import Derived.KernelRfl
namespace Go.Proofs.Ytahnmklofgnagaa.Mem
open Go.RowKit Go.Proofs.YtahnmklofgnagaaW.PrintWords Go.Proofs.YtahnmklofgnagaaW.PrintLast Go.Proofs.Ytahnmklofgnagaa.Tags
set_option linter.unusedVariables false
set_option linter.unusedSimpArgs false
namespace Aw
def L : M := ((M.new 9).laid 1 D.z).1
def M0 : M := (L.alloc (number 2)).1
def M1 : M := (M0.version 3).1
def M2 : M := (M1.latest 3).1
def M3 : M := (M2.laid 0 ⟨3, 0, 0, none, 0, 0⟩).1
def M4 : M := (M3.swap 3 2 5).1
def M5 : M := (M4.version 3).1
def M6 : M := (M5.dload 5).1
def M7 : M := (M6.swap 4 0 1).1
def M8 : M := (M7.version 3).1
theorem e0 : (M.new 9).laid 1 D.z = (L, 2, 0) := by kernel_rfl
theorem e0' : L.alloc (number 2) = (M0, 3, 0) := by kernel_rfl
theorem e1 : M0.version 3 = (M1, 0, 0) := by kernel_rfl
theorem e2 : M1.latest 3 = (M2, 2, ⟨0, 0, 1, none, 0, 0⟩, true, 0) := by kernel_rfl
theorem e3 : M2.laid 0 ⟨3, 0, 0, none, 0, 0⟩ = (M3, 5, 0) := by kernel_rfl
theorem e4 : M3.swap 3 2 5 = (M4, true, 0) := by kernel_rfl
theorem e5 : M4.version 3 = (M5, 0, 0) := by kernel_rfl
theorem e6 : M5.dload 5 = (M6, ⟨3, 0, 4, none, 0, 0⟩, 0) := by kernel_rfl
theorem e7 : M6.swap 4 0 1 = (M7, true, 0) := by kernel_rfl
theorem e8 : M7.version 3 = (M8, 3, 0) := by kernel_rfl
theorem o0 : M0.okd = true := by kernel_rfl
theorem o1 : M1.okd = true := by kernel_rfl
theorem o4 : M4.okd = true := by kernel_rfl
theorem o5 : M5.okd = true := by kernel_rfl
theorem o7 : M7.okd = true := by kernel_rfl
end Aw
theorem ta_int (n : Int) (w : World) : (Instr.typeAssert (.iface 3 (.int .i64 n)) 20 3 true).run Try.prog w = .ok (.tuple #[.int .i64 n, .bool true]) w := by kernel_rfl
theorem ta_bool (b : Bool) (w : World) : (Instr.typeAssert (.iface 4 (.bool b)) 20 4 true).run Try.prog w = .ok (.tuple #[.bool b, .bool true]) w := by kernel_rfl
section
variable {w0 w w' : World} {pb mb cb : Nat} {m m' : M}
set_option maxHeartbeats 3200000 in
set_option maxRecDepth 100000 in
theorem awake14_fn (h : St w0 w pb mb cb Aw.M0) {yb : Nat} {v : Value} (k : w.heap[yb]? = some (.cells #[ptr mb, .int .i64 3, v] 27 (0, 0))) :
    Calls Try.prog 68 #[ptr pb, .pointer (some ⟨yb, 0, none⟩)] w fun e w' => e = .returned (.iface 3 (.int .i64 300)) ∧ St w0 w' pb mb cb Aw.M8 ∧ Fr w w' mb cb := by
  obtain ⟨y0, y1, y2⟩ := box3 k
  go_enter Try.func68, Try.ntmps68
  go_wp2_with fail
  refine (version_calls h Aw.o0 3).mono ?_
  rw [Aw.e1]
  rintro e W1 ⟨rfl, h1, hF⟩
  have k1 := hF.blk h.A k (by decide) (by decide)
  have HF1 := Lib.hid hF
  clear y0 y1 y2 k hF h
  obtain ⟨y0, y1, y2⟩ := box3 k1
  go_wp2_with fail
  refine (latest_calls h1 Aw.o1 3).mono ?_
  rw [Aw.e2]
  rintro e W2 ⟨rfl, h2, hF⟩
  obtain ⟨W3, hW3⟩ : ∃ W3 : World, W3 = W2.alloc (.cells #[.int .i64 0, .int .i64 0, .int .i64 1, .slice none 0 0] 51) := ⟨_, rfl⟩
  have hb : Below W2.heap.size W2 W3 := hW3 ▸ below_alloc (Below.refl _ _) _
  have k3 := blk_below (hF.blk h1.A k1 (by decide) (by decide)) hb
  have h3 := h2.below hb
  have HF3 := Lib.hid ((HF1.out.trans hF).trans (Fr.of_below hb mb cb))
  have HW3 := Lib.hid hW3
  clear y0 y1 y2 k1 hF h1 h2 hb hW3 HF1
  go_upto_region 3 with fail
  rw [← HW3.out]
  clear HW3
  obtain ⟨y0, y1, y2⟩ := box3 k3
  go_wp2_with fail
  refine (make_nil h3 3 0).mono ?_
  rw [Aw.e3]
  rintro e W4 ⟨rfl, h4, hF⟩
  have k4 := hF.blk h3.A k3 (by decide) (by decide)
  have HF4 := Lib.hid (HF3.out.trans hF)
  clear y0 y1 y2 k3 hF h3 HF3
  obtain ⟨y0, y1, y2⟩ := box3 k4
  go_wp2_with fail
  refine (publish_calls h4 3 2 5).mono ?_
  rw [Aw.e4]
  rintro e W5 ⟨rfl, h5, hF⟩
  have k5 := hF.blk h4.A k4 (by decide) (by decide)
  have HF5 := Lib.hid (HF4.out.trans hF)
  clear y0 y1 y2 k4 hF h4 HF4
  obtain ⟨y0, y1, y2⟩ := box3 k5
  go_wp2_with fail
  refine (version_calls h5 Aw.o4 3).mono ?_
  rw [Aw.e5]
  rintro e W6 ⟨rfl, h6, hF⟩
  have k6 := hF.blk h5.A k5 (by decide) (by decide)
  have HF6 := Lib.hid (HF5.out.trans hF)
  clear y0 y1 y2 k5 hF h5 HF5
  obtain ⟨y0, y1, y2⟩ := box3 k6
  go_wp2_with fail
  refine (dload_calls h6 Aw.o5 5).mono ?_
  rw [Aw.e6]
  rintro e W7 ⟨rfl, h7, hF⟩
  obtain ⟨W8, hW8⟩ : ∃ W8 : World, W8 = W7.alloc (.cells #[.int .i64 3, .int .i64 0, .int .i64 4, .slice none 0 0] 51) := ⟨_, rfl⟩
  have hb : Below W7.heap.size W7 W8 := hW8 ▸ below_alloc (Below.refl _ _) _
  have k8 := blk_below (hF.blk h6.A k6 (by decide) (by decide)) hb
  have x8 : W8.heap[W7.heap.size]? = some (.cells #[.int .i64 3, .int .i64 0, .int .i64 4, .slice none 0 0] 51 (0, 0)) := hW8 ▸ blk_new _ _
  have h8 := h7.below hb
  have HF8 := Lib.hid ((HF6.out.trans hF).trans (Fr.of_below hb mb cb))
  have HW8 := Lib.hid hW8
  clear y0 y1 y2 k6 hF h6 h7 hb hW8 HF6
  go_upto_region 7 with fail
  rw [← HW8.out]
  clear HW8
  obtain ⟨y0, y1, y2⟩ := box3 k8
  obtain ⟨x0, x1, x2, x3⟩ := box4 x8
  go_wp2_with fail
  refine (help_nil h8 3 0 4).mono ?_
  rw [Aw.e7]
  rintro e W9 ⟨rfl, h9, hF⟩
  have k9 := hF.blk h8.A k8 (by decide) (by decide)
  have HF9 := Lib.hid (HF8.out.trans hF)
  clear y0 y1 y2 k8 hF h8 HF8 x0 x1 x2 x3 x8
  obtain ⟨y0, y1, y2⟩ := box3 k9
  go_wp2_with fail
  refine (version_calls h9 Aw.o7 3).mono ?_
  rw [Aw.e8]
  rintro e W10 ⟨rfl, h10, hF⟩
  have HF10 := Lib.hid (HF9.out.trans hF)
  clear y0 y1 y2 k9 hF h9 HF9
  go_wp2_with fail
  go_ret
  exact ⟨rfl, h10, HF10.out⟩
set_option maxHeartbeats 3200000 in
set_option maxRecDepth 100000 in
theorem awake14_calls (w : World) : Calls Try.prog 12 #[] w fun e w' => e = .returned (.bool true) ∧ Below w.heap.size w w' := by
  go_enter Try.func12, Try.ntmps12
  go_wp2_with fail
  refine (Lay_calls (c := 9) (n := 0) (by decide) (by decide) (by decide) Aw.e0 Aw.e0' rfl w).mono ?_
  rintro e W1 ⟨mb, cb, A, cc, rfl, hA, hO, hB, hmb, hcb⟩
  obtain ⟨W2, hW2⟩ : ∃ W2 : World, W2 = W1.alloc (.cells #[ptr mb, .int .i64 3, .slice A 0 cc] 27) := ⟨_, rfl⟩
  have hb : Below W1.heap.size W1 W2 := hW2 ▸ below_alloc (Below.refl _ _) _
  have k2 : W2.heap[W1.heap.size]? = some (.cells #[ptr mb, .int .i64 3, .slice A 0 cc] 27 (0, 0)) := hW2 ▸ blk_new _ _
  have hA2 := hA.below hb
  have HB2 := Lib.hid (below_then hB hB.size hb)
  have HW2 := Lib.hid hW2
  have hA3 := hA2.alloc (port0 mb)
  have hP3 : PD (W2.alloc (port0 mb)) W2.heap.size mb := blk_new _ _
  have HD := Lib.hid (do1_calls (mb := mb) (fun args W => enters_ Try.func68 (by kernel_rfl) rfl args W) (awake14_fn (St.refl hA3 hP3) (blk_alloc k2 (port0 mb))))
  obtain ⟨y0, y1, y2⟩ := box3 k2
  have hmf := makeFunc_run
  clear hb hW2 hA hO hB k2 hA3 hP3
  go_upto_region 2 with fail
  rw [← HW2.out]
  clear HW2
  go_wp2_with fail
  refine HD.out.mono ?_
  rintro e W3 ⟨rfl, h3, hF⟩
  have hF3 := (Fr.of_below (below_alloc (Below.refl W2.heap.size W2) (port0 mb)) mb cb).trans hF
  have hBF : Below w.heap.size w W3 := ⟨hF3.os.trans HB2.out.os, hF3.tape.trans HB2.out.tape, hF3.output.trans HB2.out.output, Nat.le_trans HB2.out.size hF3.size, fun k hk => (hF3.block k (by have := HB2.out.size; omega) (by omega) (by omega)).trans (HB2.out.block k hk)⟩
  have HBF := Lib.hid hBF
  clear hF3 hBF hF h3 y0 y1 y2 HD
  have hta := ta_int 300
  go_wp2_with fail
  go_ret
  exact ⟨rfl, HBF.out⟩
end
end Go.Proofs.Ytahnmklofgnagaa.Mem
