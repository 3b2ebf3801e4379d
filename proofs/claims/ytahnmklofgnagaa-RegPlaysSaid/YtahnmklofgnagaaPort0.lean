/- Ports that ask memory at once: what each of their functions answers. -/
import Derived.Test.YtahnmklofgnagaaMem4
import Derived.Deep.QuietTactic
import Derived.BigQuiet
import Derived.StillTailTactics
import Derived.Deep.RegionWith
import Derived.BigRegion
import Derived.Test.YtahnmklofgnagaaWLast
import Derived.Deep.DeepCutAuto
import Derived.Outline
namespace Go.Proofs.Ytahnmklofgnagaa.Mem
open Go.RowKit Go.Proofs.YtahnmklofgnagaaW.PrintWords Go.Proofs.YtahnmklofgnagaaW.PrintLast Go.Proofs.Ytahnmklofgnagaa.Tags
set_option linter.unusedVariables false
set_option linter.unusedSimpArgs false
section
variable {w w' : World} {pb mb cb : Nat} {m : M}
/-- A port that asks memory at once. -/
def PD (w : World) (pb mb : Nat) : Prop := w.heap[pb]? = some (.cells #[ptr mb, .slice none 0 0, .int .i64 0, .int .i64 (-1), .int .i64 0] 111 (0, 0))
theorem PD.cells (h : PD w pb mb) : w.cell? ⟨pb, 0, none⟩ = some (ptr mb) ∧ w.cell? ⟨pb, 1, none⟩ = some (.slice none 0 0) ∧ w.cell? ⟨pb, 2, none⟩ = some (.int .i64 0) ∧ w.cell? ⟨pb, 3, none⟩ = some (.int .i64 (-1)) ∧ w.cell? ⟨pb, 4, none⟩ = some (.int .i64 0) :=
  ⟨(blk_cell h 0).trans rfl, (blk_cell h 1).trans rfl, (blk_cell h 2).trans rfl, (blk_cell h 3).trans rfl, (blk_cell h 4).trans rfl⟩
theorem PD.below (h : PD w pb mb) (hb : Below w.heap.size w w') : PD w' pb mb := blk_below h hb
theorem PD.lt (h : PD w pb mb) : pb < w.heap.size := blk_lt h
theorem PD.ne (h : PD w pb mb) (hA : At w mb cb m) : pb ≠ mb ∧ pb ≠ cb := ⟨by rintro rfl; exact absurd (h.symm.trans hA.hm) (by intro e; injection e with e; injection e with _ e; exact absurd e (by decide)), by rintro rfl; exact absurd (h.symm.trans hA.hc) (by intro e; injection e with e; injection e with _ e; exact absurd e (by decide))⟩
theorem PD.fr (h : PD w pb mb) (hA : At w mb cb m) (hF : Fr w w' mb cb) : PD w' pb mb := (hF.block pb h.lt (h.ne hA).1 (h.ne hA).2).trans h
theorem box4 {g : Nat} {t : TypeId} {a b c d : Value} {w : World} (h : w.heap[g]? = some (.cells #[a, b, c, d] t (0, 0))) : w.cell? ⟨g, 0, none⟩ = some a ∧ w.cell? ⟨g, 1, none⟩ = some b ∧ w.cell? ⟨g, 2, none⟩ = some c ∧ w.cell? ⟨g, 3, none⟩ = some d :=
  ⟨(blk_cell h 0).trans rfl, (blk_cell h 1).trans rfl, (blk_cell h 2).trans rfl, (blk_cell h 3).trans rfl⟩
theorem mb_lt (h : At w mb cb m) : mb < w.heap.size := blk_lt h.hm
theorem cb_lt (h : At w mb cb m) : cb < w.heap.size := blk_lt h.hc
/-- One block was written, no other. -/
structure Only (w w' : World) (b : Nat) : Prop where
  os : w'.os = w.os
  tape : w'.tape = w.tape
  output : w'.output = w.output
  size : w'.heap.size = w.heap.size
  block : ∀ k, k ≠ b → w'.heap[k]? = w.heap[k]?
theorem Only.set (w : World) (p : Addr) (u : Value) : Only w (w.setCell p u) p.block := ⟨rfl, rfl, rfl, by simp [World.setCell], fun k hk => Below.heap_setCell w p u k hk⟩
theorem Only.trans {w2 : World} {b : Nat} (h : Only w w' b) (k : Only w' w2 b) : Only w w2 b := ⟨k.os.trans h.os, k.tape.trans h.tape, k.output.trans h.output, k.size.trans h.size, fun i hi => (k.block i hi).trans (h.block i hi)⟩
abbrev set4 (w : World) (b : Nat) (v0 v1 v2 v3 : Value) : World := (((w.setCell ⟨b, 0, none⟩ v0).setCell ⟨b, 1, none⟩ v1).setCell ⟨b, 2, none⟩ v2).setCell ⟨b, 3, none⟩ v3
theorem only4 (w : World) (b : Nat) (v0 v1 v2 v3 : Value) : Only w (set4 w b v0 v1 v2 v3) b := (((Only.set w ⟨b, 0, none⟩ v0).trans (Only.set _ ⟨b, 1, none⟩ v1)).trans (Only.set _ ⟨b, 2, none⟩ v2)).trans (Only.set _ ⟨b, 3, none⟩ v3)
theorem blk4 {b : Nat} {t : TypeId} {a0 a1 a2 a3 : Value} (h : w.heap[b]? = some (.cells #[a0, a1, a2, a3] t (0, 0))) (v0 v1 v2 v3 : Value) : (set4 w b v0 v1 v2 v3).heap[b]? = some (.cells #[v0, v1, v2, v3] t (0, 0)) :=
  blk_put (blk_put (blk_put (blk_put h 0 v0 rfl) 1 v1 rfl) 2 v2 rfl) 3 v3 rfl
theorem At.only {b : Nat} (h : At w mb cb m) (k : Only w w' b) (h1 : mb ≠ b) (h2 : cb ≠ b) : At w' mb cb m := h.of_blocks (k.block mb h1) (k.block cb h2)
theorem Fr.only {a : World} {b : Nat} (h : Fr a w mb cb) (k : Only w w' b) (hb : a.heap.size ≤ b) : Fr a w' mb cb := ⟨k.os.trans h.os, k.tape.trans h.tape, k.output.trans h.output, by rw [k.size]; exact h.size, fun i hi h1 h2 => (k.block i (by omega)).trans (h.block i hi h1 h2)⟩
theorem makeFunc_run (fn : Fn) (first cap : Array Value) (w : World) : (Instr.makeFunc fn first cap).run Try.prog w = .ok (.func fn first cap) w := rfl
abbrev ans (b : Value) (n : Int) (ok : Bool) (e : Int) : Value := .agg #[b, .int .i64 n, .bool ok, .int .i64 e]
set_option maxHeartbeats 1600000 in
theorem ask_calls (hA : At w mb cb m) (hP : PD w pb mb) {K : Nat} {caps : Array Value} {b : Value} {n : Int} {ok : Bool} {e : Int} {m' : M} (hbv : b = .nilIface ∨ ∃ T x, b = .iface T x) (hK : ∀ W, (callFunc K caps).run Try.prog W = .ok (.enter K caps) W) (hd : ∀ W, Below w.heap.size w W → Calls Try.prog K caps W (Ends W mb cb (ans b n ok e) m')) :
    Calls Try.prog 80 #[ptr pb, .func (Fn.func K) #[] caps] w (Ends w mb cb (ans b n ok e) m') := by
  have hlt := hP.lt
  have hb : Below w.heap.size w (w.alloc (.cells #[.nilIface, .int .i64 0, .bool false, .int .i64 0] 123)) := below_alloc (Below.refl _ _) _
  have hA1 := hA.alloc (.cells #[.nilIface, .int .i64 0, .bool false, .int .i64 0] 123)
  have hP1 := hP.below hb
  obtain ⟨p0, p1, p2, p3, p4⟩ := (hP.below hb).cells
  obtain ⟨r0, r1, r2, r3, r4⟩ := hP.cells
  have hK0 := blk_new w (.cells #[.nilIface, .int .i64 0, .bool false, .int .i64 0] 123)
  have b1 : w.heap.size ≠ mb := by have := mb_lt hA; omega
  have b2 : w.heap.size ≠ cb := by have := cb_lt hA; omega
  have HK0 := Lib.hid hK0
  have HB := Lib.hid hb
  clear hK0 hb
  go_enter Try.func80, Try.ntmps80
  go_wp2_with fail
  go_quiet (fail)
  go_wp2_with fail
  refine (hd _ (pw_below_drewN HB.out _)).mono ?_
  rintro e W ⟨rfl, hA', hF⟩
  have hF2 : Fr w W mb cb := (Fr.of_below HB.out mb cb).trans ((Fr.of_below (pw_below_drewN (Below.refl _ _) nq) mb cb).trans hF)
  have hP2 := PD.fr (PD.below hP1 (pw_below_drewN (Below.refl _ _) nq)) (hA1.drewN nq) hF
  have hK2 := (hF.block _ (blk_lt HK0.out) b1 b2).trans HK0.out
  obtain ⟨q0, q1, q2, q3, q4⟩ := hP2.cells
  obtain ⟨s0, s1, s2, s3⟩ := box4 hK2
  have z0 := blk_frozen hK2 0
  have z1 := blk_frozen hK2 1
  have z2 := blk_frozen hK2 2
  have z3 := blk_frozen hK2 3
  have hlt2 := blk_lt hK2
  have hlt3 := hP2.lt
  have HK2 := Lib.hid hK2
  clear hK2 hF p0 p1 p2 p3 p4 r0 r1 r2 r3 r4 hd
  have HF2 := Lib.hid hF2
  have HA := Lib.hid hA'
  clear hF2 hA' hA hA1 hP hP1 hP2 hK HK0 HB
  rcases hbv with rfl | ⟨T, x, rfl⟩
  · go_wp2_with fail
    have hk := blk_alloc (blk4 HK2.out .nilIface (.int .i64 n) (.bool ok) (.int .i64 e)) (.cells #[.nilIface, .int .i64 n, .bool ok, .int .i64 e] 123)
    obtain ⟨u0, u1, u2, u3⟩ := box4 hk
    have ho := only4 W w.heap.size .nilIface (.int .i64 n) (.bool ok) (.int .i64 e)
    have FIN := Lib.hid (show Ends w mb cb (ans .nilIface n ok e) m' (.returned (ans .nilIface n ok e)) _ from ⟨rfl, (HA.out.only ho (Ne.symm b1) (Ne.symm b2)).alloc (.cells #[.nilIface, .int .i64 n, .bool ok, .int .i64 e] 123), (HF2.out.only ho (Nat.le_refl _)).alloc _⟩)
    clear ho hk s0 s1 s2 s3 q0 q1 q2 q3 q4 z0 z1 z2 z3
    exact bodyPost_ret (v := ans .nilIface n ok e) (by simp [results, Try.results80, go_sem, u0, u1, u2, u3]) rfl FIN.out
  · go_wp2_with fail
    have hk := blk_alloc (blk4 HK2.out (.iface T x) (.int .i64 n) (.bool ok) (.int .i64 e)) (.cells #[.iface T x, .int .i64 n, .bool ok, .int .i64 e] 123)
    obtain ⟨u0, u1, u2, u3⟩ := box4 hk
    have ho := only4 W w.heap.size (.iface T x) (.int .i64 n) (.bool ok) (.int .i64 e)
    have FIN := Lib.hid (show Ends w mb cb (ans (.iface T x) n ok e) m' (.returned (ans (.iface T x) n ok e)) _ from ⟨rfl, (HA.out.only ho (Ne.symm b1) (Ne.symm b2)).alloc (.cells #[.iface T x, .int .i64 n, .bool ok, .int .i64 e] 123), (HF2.out.only ho (Nat.le_refl _)).alloc _⟩)
    clear ho hk s0 s1 s2 s3 q0 q1 q2 q3 q4 z0 z1 z2 z3
    exact bodyPost_ret (v := ans (.iface T x) n ok e) (by simp [results, Try.results80, go_sem, u0, u1, u2, u3]) rfl FIN.out
theorem box1 {g : Nat} {t : TypeId} {a : Value} {w : World} (h : w.heap[g]? = some (.cells #[a] t (0, 0))) : w.cell? ⟨g, 0, none⟩ = some a := (blk_cell h 0).trans rfl
theorem field_ans (b : Value) (n : Int) (ok : Bool) (e : Int) (w : World) : (Instr.field 123 (ans b n ok e) 3).run Try.prog w = .ok (.int .i64 e) w := by kernel_rfl
theorem load_iface (hA : At w mb cb m) (h : Int) : (m.load h).2.1 = .nilIface ∨ ∃ T x, (m.load h).2.1 = .iface T x := by
  unfold M.load
  split
  · exact Or.inl rfl
  · split
    · exact Or.inl rfl
    · rcases hA.okv _ with e | ⟨n, e⟩ | ⟨T, x, e, _⟩
      · exact Or.inl e
      · exact Or.inr ⟨_, _, e⟩
      · exact Or.inr ⟨_, _, e⟩
end
end Go.Proofs.Ytahnmklofgnagaa.Mem
