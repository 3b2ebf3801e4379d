/- The document's example of memory, by hand. -/
import Derived.Test.YthghhkdichbijaaMem4
namespace Go.Proofs.Ythghhkdichbijaa.Mem
open Go.RowKit Go.Proofs.YthghhkdichbijaaW.PrintWords Go.Proofs.Ythghhkdichbijaa.Tags
set_option linter.unusedVariables false
set_option linter.unusedSimpArgs false
section
/-- What is made by a call, and turned by it alone, is new: all that was there is as it was. -/
theorem Fr.over {w w1 w2 : World} {mb cb : Nat} {B : Nat} (h : Fr w1 w2 mb cb) (hb : Below B w w1) (h0 : B ≤ w1.heap.size) (h1 : B ≤ mb) (h2 : B ≤ cb) : Below B w w2 :=
  ⟨h.os.trans hb.os, h.tape.trans hb.tape, h.output.trans hb.output, Nat.le_trans hb.size h.size, fun k hk => (h.block k (by omega) (by omega) (by omega)).trans (hb.block k hk)⟩
theorem awake_alloc5 : (M.new 1).alloc (number 5) = (⟨[⟨number 5, 0, 0, false⟩], 1, 1, 0⟩, 1, 0) := by kernel_rfl
theorem awake_free : (⟨[⟨number 5, 0, 0, false⟩], 1, 1, 0⟩ : M).free 1 = (⟨[⟨.nilIface, 1, 0, false⟩], 2, 0, 0⟩, 0) := by kernel_rfl
theorem awake_alloc6 : (⟨[⟨.nilIface, 1, 0, false⟩], 2, 0, 0⟩ : M).alloc (number 6) = (⟨[⟨number 6, 1, 0, false⟩], 3, 1, 0⟩, 65537, 0) := by kernel_rfl
set_option maxHeartbeats 800000 in
theorem awake_calls (w : World) : Calls Try.prog 11 #[] w fun e w' => e = .returned (.bool true) ∧ Below w.heap.size w w' := by
  go_enter Try.func11, Try.ntmps11
  go_wp2_with fail
  refine (New_calls 1 w (by omega) (by omega)).mono ?_
  rintro e w1 ⟨rfl, hA, hB⟩
  go_wp2_with fail
  refine (AllocWord_calls hA 5).mono ?_
  rw [awake_alloc5]
  rintro e w2 ⟨rfl, hA2, hF2⟩
  go_wp2_with fail
  refine (Free_calls hA2 1).mono ?_
  rw [awake_free]
  rintro e w3 ⟨rfl, hA3, hF3⟩
  go_wp2_with fail
  refine (AllocWord_calls hA3 6).mono ?_
  rw [awake_alloc6]
  rintro e w4 ⟨rfl, hA4, hF4⟩
  go_wp2
  go_ret
  exact ⟨rfl, ((hF2.trans hF3).trans hF4).over hB hB.size (by omega) (by omega)⟩
end
end Go.Proofs.Ythghhkdichbijaa.Mem
