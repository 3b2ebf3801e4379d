/- An act, of the program and of the document's memory: both answer alike. By hand, case by case. -/
import Derived.Test.YthghhkdichbijaaDoes0
import Derived.Outline
namespace Go.Proofs.Ythghhkdichbijaa.Mem
open Go.RowKit Go.Proofs.YthghhkdichbijaaW.PrintWords Go.Proofs.Ythghhkdichbijaa.Tags Go.Proofs.Ythghhkdichbijaa.PMemPlays
open Go.Proofs.Ythghhkdichbijaa.RefAlloc
set_option linter.unusedVariables false
set_option linter.unusedSimpArgs false
section
variable {w w0 : World} {mb cb : Nat} {m : M} {x : Value} {r : R} {ts : List Int} {A : Option Addr} {c : Nat}
/-- What an act comes to. -/
def Kp (w w' : World) (mb cb : Nat) : Prop := ∀ (k : Nat) (cs : Array Value), k ≠ mb → k ≠ cb → w.heap[k]? = some (.cells cs 45 (0, 0)) → w'.heap[k]? = some (.cells cs 45 (0, 0))
def Did (w0 w : World) (mb cb : Nat) (tv : Value) (ts : List Int) (e : Ending) (w' : World) : Prop := ∃ (x' : Value) (m' : M) (r' : R) (h : Int), e = .returned (.tuple #[x', .bool true, .int .i64 h]) ∧ Sim m' r' ∧ At w' mb cb m' ∧ RV w' w0.heap.size x' r' ∧ OwnI w' w0.heap.size tv ts ∧ Below w0.heap.size w0 w' ∧ Kp w w' mb cb
theorem ex_word (h : Sim m r) (q : Int) : ∃ m' r' n e, m.word q = (m', n, e) ∧ r.look q 1 = (r', n, e) ∧ Sim m' r' := ⟨(m.word q).1, (r.look q 1).1, (r.look q 1).2.1, (r.look q 1).2.2, Prod.ext rfl (h.word q).1, rfl, (h.word q).2⟩
theorem ex_alloc (h : Sim m r) (k n : Int) (v : Value) (hv : (k = 1 ∧ v = number n) ∨ (k = 2 ∧ v = note n)) : ∃ m' r' q e, m.alloc v = (m', q, e) ∧ R.alloc r k n = (r', q, e) ∧ Sim m' r' := ⟨(m.alloc v).1, (R.alloc r k n).1, (R.alloc r k n).2.1, (R.alloc r k n).2.2, Prod.ext rfl (h.alloc k n v hv).1, rfl, (h.alloc k n v hv).2⟩
theorem ex_store (h : Sim m r) (q n : Int) : ∃ m' r' b e, m.store q n = (m', e) ∧ r.swap q 0 n true = (r', b, e) ∧ Sim m' r' := ⟨(m.store q n).1, (r.swap q 0 n true).1, (r.swap q 0 n true).2.1, (r.swap q 0 n true).2.2, Prod.ext rfl (h.store q n).1, rfl, (h.store q n).2⟩
theorem ex_swap (h : Sim m r) (q o n : Int) : ∃ m' r' b e, m.swap q o n = (m', b, e) ∧ r.swap q o n false = (r', b, e) ∧ Sim m' r' := ⟨(m.swap q o n).1, (r.swap q o n false).1, (r.swap q o n false).2.1, (r.swap q o n false).2.2, Prod.ext rfl (h.swap q o n).1, rfl, (h.swap q o n).2⟩
theorem ex_free (h : Sim m r) (q : Int) : ∃ m' r' e, m.free q = (m', e) ∧ r.free q = (r', e) ∧ Sim m' r' := ⟨(m.free q).1, (r.free q).1, (r.free q).2, Prod.ext rfl (h.free_ q).1, rfl, (h.free_ q).2⟩
theorem ex_retire (h : Sim m r) (q s : Int) : ∃ m' r' e, m.retire q s = (m', e) ∧ r.retire q s = (r', e) ∧ Sim m' r' := ⟨(m.retire q s).1, (r.retire q s).1, (r.retire q s).2, Prod.ext rfl (h.retire q s).1, rfl, (h.retire q s).2⟩
theorem ex_reap (h : Sim m r) (p b : Int) : ∃ m' r' z e, m.reap p b = (m', z, e) ∧ r.reap p b = (r', z, e) ∧ Sim m' r' := ⟨(m.reap p b).1, (r.reap p b).1, (r.reap p b).2.1, (r.reap p b).2.2, Prod.ext rfl (h.reap p b).1, rfl, (h.reap p b).2⟩
theorem ex_load (h : Sim m r) (q : Int) : ∃ m' r' v n e, m.load q = (m', v, e) ∧ r.look q 2 = (r', n, e) ∧ Sim m' r' ∧ ((e = 0 ∧ v = note n) ∨ ((e = 5 ∨ e = 6) ∧ v = .nilIface)) := by
  obtain ⟨⟨h1, h2⟩, h3⟩ := h.load q
  exact ⟨(m.load q).1, (r.look q 2).1, (m.load q).2.1, (r.look q 2).2.1, (r.look q 2).2.2, Prod.ext rfl (Prod.ext rfl h1), rfl, h2, h3⟩
end
end Go.Proofs.Ythghhkdichbijaa.Mem
