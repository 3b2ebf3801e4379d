/- Machines: New, Ended, Out, Steps, Noted; a function that adds 1 to a word. -/
import Derived.Test.YthgbgflpjggpmaaStep4
namespace Go.Proofs.Ythgbgflpjggpmaa.Mem
open Go.RowKit Go.Proofs.YthgbgflpjggpmaaW.PrintWords Go.Proofs.YthgbgflpjggpmaaW.PrintLast Go.Proofs.Ythgbgflpjggpmaa.Tags
set_option linter.unusedVariables false
set_option linter.unusedSimpArgs false
section
variable {w w' w0 : World} {pb mb cb xb : Nat} {S : Nat → Prop} {s : PS} {v fv out : Value} {steps : Int} {ended : Bool}
theorem mended_calls (h : MG w xb pb fv out steps ended) : Calls Try.prog 14 #[ptr xb] w fun e w' => e = .returned (.bool ended) ∧ w' = w := by
  obtain ⟨m0, m1, m2, m3, m4⟩ := h.cells
  go_enter Try.func14, Try.ntmps14
  go_wp2
  go_ret
  exact ⟨rfl, rfl⟩
theorem mout_calls (h : MG w xb pb fv out steps ended) : Calls Try.prog 15 #[ptr xb] w fun e w' => e = .returned out ∧ w' = w := by
  obtain ⟨m0, m1, m2, m3, m4⟩ := h.cells
  go_enter Try.func15, Try.ntmps15
  go_wp2
  go_ret
  exact ⟨rfl, rfl⟩
theorem msteps_calls (h : MG w xb pb fv out steps ended) : Calls Try.prog 25 #[ptr xb] w fun e w' => e = .returned (.int .i64 steps) ∧ w' = w := by
  obtain ⟨m0, m1, m2, m3, m4⟩ := h.cells
  go_enter Try.func25, Try.ntmps25
  go_wp2
  go_ret
  exact ⟨rfl, rfl⟩
set_option maxHeartbeats 1600000 in
theorem mnew_calls (mb FN : Nat) (caps : Array Value) (w : World) : Calls Try.prog 9 #[ptr mb, .func (Fn.func FN) #[] caps] w fun e w' => e = .returned (ptr (w.heap.size + 1)) ∧ PG w' w.heap.size mb (.slice none 0 0) 0 0 0 ∧ MG w' (w.heap.size + 1) w.heap.size (.func (Fn.func FN) #[] caps) .nilIface 0 false ∧ Below w.heap.size w w' := by
  have hb := below_alloc (below_alloc (Below.refl w.heap.size w) (.cells #[ptr mb, .slice none 0 0, .int .i64 0, .int .i64 0, .int .i64 0] 72)) (.cells #[ptr w.heap.size, .func (Fn.func FN) #[] caps, .nilIface, .int .i64 0, .bool false] 74)
  have hp : PG ((w.alloc (.cells #[ptr mb, .slice none 0 0, .int .i64 0, .int .i64 0, .int .i64 0] 72)).alloc (.cells #[ptr w.heap.size, .func (Fn.func FN) #[] caps, .nilIface, .int .i64 0, .bool false] 74)) w.heap.size mb (.slice none 0 0) 0 0 0 := blk_alloc (blk_new _ _) _
  have hm : MG ((w.alloc (.cells #[ptr mb, .slice none 0 0, .int .i64 0, .int .i64 0, .int .i64 0] 72)).alloc (.cells #[ptr w.heap.size, .func (Fn.func FN) #[] caps, .nilIface, .int .i64 0, .bool false] 74)) (w.heap.size + 1) w.heap.size (.func (Fn.func FN) #[] caps) .nilIface 0 false := by
    have e : w.heap.size + 1 = (w.alloc (.cells #[ptr mb, .slice none 0 0, .int .i64 0, .int .i64 0, .int .i64 0] 72)).heap.size := by simp
    unfold MG
    rw [e]
    exact blk_new _ _
  have HB := Lib.hid hb
  have HP := Lib.hid hp
  have HM := Lib.hid hm
  clear hb hp hm
  go_enter Try.func9, Try.ntmps9
  go_wp2
  go_ret
  exact ⟨rfl, HP.out, HM.out, HB.out⟩
end
end Go.Proofs.Ythgbgflpjggpmaa.Mem
