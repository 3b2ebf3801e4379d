/- DescRefuses, by hand: what is no descriptor, and no word, is refused as memory says. -/
import Derived.Test.YtahnmklofgnagaaAwake14
namespace Go.Proofs.Ytahnmklofgnagaa.Mem
open Go.RowKit Go.Proofs.YtahnmklofgnagaaW.PrintWords Go.Proofs.YtahnmklofgnagaaW.PrintLast Go.Proofs.Ytahnmklofgnagaa.Tags
set_option linter.unusedVariables false
set_option linter.unusedSimpArgs false
namespace Rf
def text : Value := .iface 9 (.string ⟨#[120]⟩)
def N0 : M := (Aw.M0.alloc (number 0)).1
def N1 : M := (N0.dload 4).1
def N2 : M := (N1.latest 4).1
def N3 : M := (N2.alloc text).1
def N4 : M := (N3.dload 5).1
def N5 : M := (N4.latest 0).1
def N6 : M := (N5.version 5).1
def N7 : M := (N6.free 5).1
def N8 : M := (N7.undo 5).1
def N9 : M := (N8.drop 5 1).1
theorem f0 : Aw.M0.fill 0 1 [] = some (N0, [4]) := by kernel_rfl
theorem e1 : N0.dload 4 = (N1, D.z, 6) := by kernel_rfl
theorem e2 : N1.latest 4 = (N2, 0, D.z, false, 5) := by kernel_rfl
theorem e3 : N2.alloc (.iface 9 (.string ⟨#[120]⟩)) = (N3, 5, 0) := by kernel_rfl
theorem e4 : N3.dload 5 = (N4, D.z, 6) := by kernel_rfl
theorem e5 : N4.latest 0 = (N5, 0, D.z, false, 5) := by kernel_rfl
theorem e6 : N5.version 5 = (N6, 0, 6) := by kernel_rfl
theorem e7 : N6.free 5 = (N7, 0) := by kernel_rfl
theorem e8 : N7.undo 5 = (N8, 5) := by kernel_rfl
theorem e9 : N8.drop 5 1 = (N9, 5) := by kernel_rfl
theorem o0 : N0.okd = true := by kernel_rfl
theorem o1 : N1.okd = true := by kernel_rfl
theorem o3 : N3.okd = true := by kernel_rfl
theorem o4 : N4.okd = true := by kernel_rfl
theorem o5 : N5.okd = true := by kernel_rfl
theorem o7 : N7.okd = true := by kernel_rfl
theorem o8 : N8.okd = true := by kernel_rfl
end Rf
section
variable {w0 w w' : World} {pb mb cb : Nat} {m m' : M}
set_option maxHeartbeats 3200000 in
set_option maxRecDepth 100000 in
theorem Refuses_fn (h : St w0 w pb mb cb Rf.N0) {yb g cc : Nat} (k : w.heap[yb]? = some (.cells #[ptr mb, .int .i64 3, .slice (some ⟨g, 0, none⟩) 1 cc] 27 (0, 0))) (kc : w.cell? ⟨g, 0, none⟩ = some (.int .i64 4)) :
    Calls Try.prog 22 #[ptr pb, .pointer (some ⟨yb, 0, none⟩)] w fun e w' => e = .returned (.iface 4 (.bool true)) ∧ Fr w w' mb cb := by
  obtain ⟨y0, y1, y2⟩ := box3 k
  have HF := Lib.hid (Fr.refl w mb cb)
  go_enter Try.func22, Try.ntmps22
  go_upto_region 2 with fail
  clear y0 y1 y2 k kc
  go_wp2_with fail
  refine (dload_calls h Rf.o0 4).mono ?_
  rw [Rf.e1]
  rintro e W0 ⟨rfl, h0, hF⟩
  obtain ⟨X0, hX⟩ : ∃ X : World, X = W0.alloc (.cells #[.int .i64 0, .int .i64 0, .int .i64 0, .slice none 0 0] 51) := ⟨_, rfl⟩
  have hb : Below W0.heap.size W0 X0 := hX ▸ below_alloc (Below.refl _ _) _
  have j0 := h0.below hb
  have HF0 := Lib.hid ((HF.out.trans hF).trans (Fr.of_below hb mb cb))
  have HX := Lib.hid hX
  clear hF h0 h hb hX HF
  have HF := HF0
  clear HF0
  go_upto_region 3 with fail
  rw [← HX.out]
  clear HX
  go_wp2_with fail
  refine (latest_calls j0 Rf.o1 4).mono ?_
  rw [Rf.e2]
  rintro e W1 ⟨rfl, h1, hF⟩
  obtain ⟨X1, hX⟩ : ∃ X : World, X = W1.alloc (.cells #[.int .i64 0, .int .i64 0, .int .i64 0, .slice none 0 0] 51) := ⟨_, rfl⟩
  have hb : Below W1.heap.size W1 X1 := hX ▸ below_alloc (Below.refl _ _) _
  have j1 := h1.below hb
  have HF1 := Lib.hid ((HF.out.trans hF).trans (Fr.of_below hb mb cb))
  have HX := Lib.hid hX
  clear hF h1 j0 hb hX HF
  have HF := HF1
  clear HF1
  go_upto_region 4 with fail
  rw [← HX.out]
  clear HX
  go_wp2_with fail
  refine (qAlloc j1 9 (.string ⟨#[120]⟩) (Or.inr (Or.inr ⟨_, _, rfl, by decide⟩))).mono ?_
  rw [Rf.e3]
  rintro e W2 ⟨rfl, h2, hF⟩
  have HF2 := Lib.hid (HF.out.trans hF)
  clear hF j1 HF
  have HF := HF2
  clear HF2
  go_wp2_with fail
  refine (dload_calls h2 Rf.o3 5).mono ?_
  rw [Rf.e4]
  rintro e W3 ⟨rfl, h3, hF⟩
  obtain ⟨X3, hX⟩ : ∃ X : World, X = W3.alloc (.cells #[.int .i64 0, .int .i64 0, .int .i64 0, .slice none 0 0] 51) := ⟨_, rfl⟩
  have hb : Below W3.heap.size W3 X3 := hX ▸ below_alloc (Below.refl _ _) _
  have j3 := h3.below hb
  have HF3 := Lib.hid ((HF.out.trans hF).trans (Fr.of_below hb mb cb))
  have HX := Lib.hid hX
  clear hF h3 h2 hb hX HF
  have HF := HF3
  clear HF3
  go_upto_region 6 with fail
  rw [← HX.out]
  clear HX
  go_wp2_with fail
  refine (latest_calls j3 Rf.o4 0).mono ?_
  rw [Rf.e5]
  rintro e W4 ⟨rfl, h4, hF⟩
  obtain ⟨X4, hX⟩ : ∃ X : World, X = W4.alloc (.cells #[.int .i64 0, .int .i64 0, .int .i64 0, .slice none 0 0] 51) := ⟨_, rfl⟩
  have hb : Below W4.heap.size W4 X4 := hX ▸ below_alloc (Below.refl _ _) _
  have j4 := h4.below hb
  have HF4 := Lib.hid ((HF.out.trans hF).trans (Fr.of_below hb mb cb))
  have HX := Lib.hid hX
  clear hF h4 j3 hb hX HF
  have HF := HF4
  clear HF4
  go_upto_region 7 with fail
  rw [← HX.out]
  clear HX
  go_wp2_with fail
  refine (version_calls j4 Rf.o5 5).mono ?_
  rw [Rf.e6]
  rintro e W5 ⟨rfl, h5, hF⟩
  have HF5 := Lib.hid (HF.out.trans hF)
  clear hF j4 HF
  have HF := HF5
  clear HF5
  go_wp2_with fail
  refine (qFree h5 5).mono ?_
  rw [Rf.e7]
  rintro e W6 ⟨rfl, h6, hF⟩
  have HF6 := Lib.hid (HF.out.trans hF)
  clear hF h5 HF
  have HF := HF6
  clear HF6
  go_wp2_with fail
  refine (undo_calls h6 Rf.o7 5).mono ?_
  rw [Rf.e8]
  rintro e W7 ⟨rfl, h7, hF⟩
  have HF7 := Lib.hid (HF.out.trans hF)
  clear hF h6 HF
  have HF := HF7
  clear HF7
  go_wp2_with fail
  refine (drop_calls h7 Rf.o8 5 1).mono ?_
  rw [Rf.e9]
  rintro e W8 ⟨rfl, h8, hF⟩
  have HF8 := Lib.hid (HF.out.trans hF)
  clear hF h7 HF
  have HF := HF8
  clear HF8
  go_wp2_with fail
  go_ret
  exact ⟨rfl, HF.out⟩
set_option maxHeartbeats 3200000 in
set_option maxRecDepth 100000 in
theorem DescRefuses_walk (x : Int) (w : World) : Calls Try.prog 4 #[.int .i64 x] w fun e w' => e = .returned (.bool true) ∧ Below w.heap.size w w' := by
  go_enter Try.func4, Try.ntmps4
  go_wp2_with fail
  refine (awake14_calls w).mono ?_
  rintro e w1 ⟨rfl, hB0⟩
  go_wp2_with fail
  refine (Lay_calls (c := 9) (n := 1) (by decide) (by decide) (by decide) Aw.e0 Aw.e0' Rf.f0 w1).mono ?_
  rintro e W1 ⟨mb, cb, A, cc, rfl, hA, hO, hB, hmb, hcb⟩
  obtain ⟨g, eg, hcell⟩ := hO.cell 0 (by decide)
  subst eg
  obtain ⟨W2, hW2⟩ : ∃ W2 : World, W2 = W1.alloc (.cells #[ptr mb, .int .i64 3, .slice (some ⟨g, 0, none⟩) 1 cc] 27) := ⟨_, rfl⟩
  have hb : Below W1.heap.size W1 W2 := hW2 ▸ below_alloc (Below.refl _ _) _
  have k2 : W2.heap[W1.heap.size]? = some (.cells #[ptr mb, .int .i64 3, .slice (some ⟨g, 0, none⟩) 1 cc] 27 (0, 0)) := hW2 ▸ blk_new _ _
  have c2 : W2.cell? ⟨g, 0, none⟩ = some (.int .i64 4) := cell_later hb hcell
  have hA2 := hA.below hb
  have HB2 := Lib.hid (below_then (below_then hB0 hB0.size hB) (Nat.le_trans hB0.size hB.size) hb)
  have h1 := hB0.size
  have HW2 := Lib.hid hW2
  have hA3 := hA2.alloc (port0 mb)
  have hP3 : PD (W2.alloc (port0 mb)) W2.heap.size mb := blk_new _ _
  have HD := Lib.hid (do1_calls (mb := mb) (fun args W => enters_ Try.func22 (by kernel_rfl) rfl args W) (Refuses_fn (St.refl hA3 hP3) (blk_alloc k2 (port0 mb)) (cell_later (below_alloc (Below.refl _ _) (port0 mb)) c2)))
  obtain ⟨y0, y1, y2⟩ := box3 k2
  have hmf := makeFunc_run
  clear hb hW2 hA hO hB k2 hA3 hP3 hcell hB0
  go_upto_region 4 with fail
  rw [← HW2.out]
  clear HW2
  by_cases hx : x = 4
  · have g1 : (x == 4) = true := by simpa using hx
    go_wp2_with fail
    refine wp_loop_rounds 1 ?_
    rw [rounds_succ]
    go_wp2_with fail
    go_ret
    exact ⟨rfl, HB2.out⟩
  · have g1 : (x == 4) = false := by simpa using hx
    by_cases hx3 : x = 3
    · have g2 : (x == 3) = true := by simpa using hx3
      go_wp2_with fail
      refine wp_loop_rounds 1 ?_
      rw [rounds_succ]
      go_wp2_with fail
      go_ret
      exact ⟨rfl, HB2.out⟩
    · have g2 : (x == 3) = false := by simpa using hx3
      go_wp2_with fail
      refine wp_loop_rounds 2 ?_
      rw [rounds_succ]
      go_wp2_with fail
      rw [rounds_succ]
      go_wp2_with fail
      refine HD.out.mono ?_
      rintro e W3 ⟨rfl, hF⟩
      have hF3 := (Fr.of_below (below_alloc (Below.refl W2.heap.size W2) (port0 mb)) mb cb).trans hF
      have hBF : Below w.heap.size w W3 := ⟨hF3.os.trans HB2.out.os, hF3.tape.trans HB2.out.tape, hF3.output.trans HB2.out.output, Nat.le_trans HB2.out.size hF3.size, fun k hk => (hF3.block k (by have := HB2.out.size; omega) (by omega) (by omega)).trans (HB2.out.block k hk)⟩
      have HBF := Lib.hid hBF
      clear hF3 hBF hF y0 y1 y2 HD c2
      have hta := ta_bool true
      go_wp2_with fail
      go_ret
      exact ⟨rfl, HBF.out⟩
end
end Go.Proofs.Ytahnmklofgnagaa.Mem
