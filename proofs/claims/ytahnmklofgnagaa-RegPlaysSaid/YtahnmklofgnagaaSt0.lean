/- What a call by a port that asks memory at once comes to. -/
import Derived.Test.YtahnmklofgnagaaPort1
import Derived.Test.YtahnmklofgnagaaPort2
import Derived.Test.YtahnmklofgnagaaPort3
import Derived.Test.YtahnmklofgnagaaPort4
namespace Go.Proofs.Ytahnmklofgnagaa.Mem
open Go.RowKit Go.Proofs.YtahnmklofgnagaaW.PrintWords Go.Proofs.YtahnmklofgnagaaW.PrintLast Go.Proofs.Ytahnmklofgnagaa.Tags
set_option linter.unusedVariables false
set_option linter.unusedSimpArgs false
section
variable {w0 w w' : World} {pb mb cb : Nat} {m m' : M}
/-- A port over memory, behind a beginning. -/
structure St (w0 w : World) (pb mb cb : Nat) (m : M) : Prop where
  A : At w mb cb m
  P : PD w pb mb
  F : Fr w0 w mb cb
theorem St.refl (hA : At w mb cb m) (hP : PD w pb mb) : St w w pb mb cb m := ⟨hA, hP, Fr.refl _ _ _⟩
theorem St.below (h : St w0 w pb mb cb m) (hb : Below w.heap.size w w') : St w0 w' pb mb cb m := ⟨h.A.below hb, h.P.below hb, h.F.trans (Fr.of_below hb _ _)⟩
theorem St.alloc (h : St w0 w pb mb cb m) (o : Obj) : St w0 (w.alloc o) pb mb cb m := h.below (below_alloc (Below.refl _ _) _)
theorem St.drewN (h : St w0 w pb mb cb m) (n : Nat) : St w0 (w.drewN n) pb mb cb m := h.below (pw_below_drewN (Below.refl _ _) n)
theorem St.lt_mb (h : St w0 w pb mb cb m) : mb < w.heap.size := blk_lt h.A.hm
theorem St.lt_cb (h : St w0 w pb mb cb m) : cb < w.heap.size := blk_lt h.A.hc
theorem St.lt_pb (h : St w0 w pb mb cb m) : pb < w.heap.size := blk_lt h.P
/-- A store into a block of another type that is new. -/
theorem St.set (h : St w0 w pb mb cb m) {b k : Nat} {cs : Array Value} {t : TypeId} (hk : w.heap[b]? = some (.cells cs t (0, 0))) (h1 : t ≠ 132) (h2 : t ≠ 165) (h3 : t ≠ 111) (hb : w0.heap.size ≤ b) (v : Value) : St w0 (w.setCell ⟨b, k, none⟩ v) pb mb cb m := by
  have n1 : mb ≠ b := by rintro rfl; exact h1 ((by have := hk.symm.trans h.A.hm; injection this with this; injection this))
  have n2 : cb ≠ b := by rintro rfl; exact h2 ((by have := hk.symm.trans h.A.hc; injection this with this; injection this))
  have n3 : pb ≠ b := by rintro rfl; exact h3 ((by have := hk.symm.trans h.P; injection this with this; injection this))
  have ho := Only.set w ⟨b, k, none⟩ v
  exact ⟨h.A.only ho n1 n2, (ho.block pb n3).trans h.P, h.F.only ho hb⟩
theorem St.only (h : St w0 w pb mb cb m) {b : Nat} (ho : Only w w' b) {cs : Array Value} {t : TypeId} (hk : w.heap[b]? = some (.cells cs t (0, 0))) (h1 : t ≠ 132) (h2 : t ≠ 165) (h3 : t ≠ 111) (hb : w0.heap.size ≤ b) : St w0 w' pb mb cb m := by
  have n1 : mb ≠ b := by rintro rfl; exact h1 ((by have := hk.symm.trans h.A.hm; injection this with this; injection this))
  have n2 : cb ≠ b := by rintro rfl; exact h2 ((by have := hk.symm.trans h.A.hc; injection this with this; injection this))
  have n3 : pb ≠ b := by rintro rfl; exact h3 ((by have := hk.symm.trans h.P; injection this with this; injection this))
  exact ⟨h.A.only ho n1 n2, (ho.block pb n3).trans h.P, h.F.only ho hb⟩
/-- A block of another type is as it was behind a call. -/
theorem Fr.blk (hF : Fr w w' mb cb) (hA : At w mb cb m) {b : Nat} {cs : Array Value} {t : TypeId} (hk : w.heap[b]? = some (.cells cs t (0, 0))) (h1 : t ≠ 132) (h2 : t ≠ 165) : w'.heap[b]? = some (.cells cs t (0, 0)) := by
  have n1 : b ≠ mb := by rintro rfl; exact h1 ((by have := hk.symm.trans hA.hm; injection this with this; injection this))
  have n2 : b ≠ cb := by rintro rfl; exact h2 ((by have := hk.symm.trans hA.hc; injection this with this; injection this))
  exact (hF.block b (blk_lt hk) n1 n2).trans hk
/-- What a call by a port comes to. -/
def Endp (w0 w : World) (pb mb cb : Nat) (a : Value) (m' : M) (e : Ending) (w' : World) : Prop := e = .returned a ∧ St w0 w' pb mb cb m' ∧ Fr w w' mb cb
theorem Endp.of {a : Value} (h : St w0 w pb mb cb m) (F : Nat) (args : Array Value) (hc : Calls Try.prog F args w (Ends w mb cb a m')) : Calls Try.prog F args w (Endp w0 w pb mb cb a m') :=
  hc.mono fun e w' ⟨h1, h2, h3⟩ => ⟨h1, ⟨h2, h.P.fr h.A h3, h.F.trans h3⟩, h3⟩
theorem qAllocWord (h : St w0 w pb mb cb m) (n : Int) : Calls Try.prog 72 #[ptr pb, .int .i64 n] w (Endp w0 w pb mb cb (.tuple #[.int .i64 (m.alloc (number n)).2.1, .int .i64 (m.alloc (number n)).2.2]) (m.alloc (number n)).1) := Endp.of h _ _ (pAllocWord h.A h.P n)
theorem qAlloc (h : St w0 w pb mb cb m) (T : TypeId) (u : Value) (hv : OkV (.iface T u)) : Calls Try.prog 25 #[ptr pb, .iface T u] w (Endp w0 w pb mb cb (.tuple #[.int .i64 (m.alloc (.iface T u)).2.1, .int .i64 (m.alloc (.iface T u)).2.2]) (m.alloc (.iface T u)).1) := Endp.of h _ _ (pAlloc h.A h.P T u hv)
theorem qLoad (h : St w0 w pb mb cb m) (x : Int) : Calls Try.prog 78 #[ptr pb, .int .i64 x] w (Endp w0 w pb mb cb (.tuple #[(m.load x).2.1, .int .i64 (m.load x).2.2]) (m.load x).1) := Endp.of h _ _ (pLoad h.A h.P x)
theorem qWord (h : St w0 w pb mb cb m) (x : Int) : Calls Try.prog 79 #[ptr pb, .int .i64 x] w (Endp w0 w pb mb cb (.tuple #[.int .i64 (m.word x).2.1, .int .i64 (m.word x).2.2]) (m.word x).1) := Endp.of h _ _ (pWord h.A h.P x)
theorem qStore (h : St w0 w pb mb cb m) (x n : Int) : Calls Try.prog 109 #[ptr pb, .int .i64 x, .int .i64 n] w (Endp w0 w pb mb cb (.int .i64 (m.store x n).2) (m.store x n).1) := Endp.of h _ _ (pStore h.A h.P x n)
theorem qSwap (h : St w0 w pb mb cb m) (x o n : Int) : Calls Try.prog 92 #[ptr pb, .int .i64 x, .int .i64 o, .int .i64 n] w (Endp w0 w pb mb cb (.tuple #[.bool (m.swap x o n).2.1, .int .i64 (m.swap x o n).2.2]) (m.swap x o n).1) := Endp.of h _ _ (pSwap h.A h.P x o n)
theorem qFree (h : St w0 w pb mb cb m) (x : Int) : Calls Try.prog 27 #[ptr pb, .int .i64 x] w (Endp w0 w pb mb cb (.int .i64 (m.free x).2) (m.free x).1) := Endp.of h _ _ (pFree h.A h.P x)
theorem qRetire (h : St w0 w pb mb cb m) (x s : Int) : Calls Try.prog 86 #[ptr pb, .int .i64 x, .int .i64 s] w (Endp w0 w pb mb cb (.int .i64 (m.retire x s).2) (m.retire x s).1) := Endp.of h _ _ (pRetire h.A h.P x s)
theorem qReap (h : St w0 w pb mb cb m) (p b : Int) : Calls Try.prog 40 #[ptr pb, .int .i64 p, .int .i64 b] w (Endp w0 w pb mb cb (.tuple #[.bool (m.reap p b).2.1, .int .i64 (m.reap p b).2.2]) (m.reap p b).1) := Endp.of h _ _ (pReap h.A h.P p b)
end
end Go.Proofs.Ytahnmklofgnagaa.Mem
