/- Machines that each add 1 to one word: what a step makes of the word, and of a machine's log. Plain. -/
import Derived.Test.YthgbgflpjggpmaaStep6
namespace Go.Proofs.Ythgbgflpjggpmaa.Mem
open Go.RowKit Go.Proofs.YthgbgflpjggpmaaW.PrintWords Go.Proofs.YthgbgflpjggpmaaW.PrintLast Go.Proofs.Ythgbgflpjggpmaa.Tags
set_option linter.unusedVariables false
set_option linter.unusedSimpArgs false
/-- A memory of one cell that holds a word. -/
def C (c n : Int) : M := ⟨[⟨number c, 0, 0, false⟩], n, 1, 0⟩
def wA (k : Int) : Ans := ⟨.nilIface, k, false, 0⟩
def sA : Ans := ⟨.nilIface, 0, false, 0⟩
/-- A log of such a machine: the word, and that it wasn't swapped, in turn. -/
inductive Wl : List Ans → Prop
  | nil : Wl []
  | one (k : Int) : Wl [wA k]
  | two (k : Int) {l : List Ans} (h : Wl l) : Wl (wA k :: sA :: l)
section
variable {s : PS}
theorem ask_in {a : Ans} {q : M → M × Ans} {pre l : List Ans} (h1 : s.log = pre ++ a :: l) (h2 : s.at_ = pre.length) : s.ask q = .ret a { s with at_ := s.at_ + 1 } := by
  unfold PS.ask
  rw [if_pos (by rw [h1, h2]; simp)]
  congr 1
  rw [h1, h2, List.getD_eq_getElem?_getD]
  simp
theorem ask_one {q : M → M × Ans} (h2 : s.at_ = s.log.length) (hl : s.left = 1) : s.ask q = .ret (q s.m).2 { s with m := (q s.m).1, log := s.log ++ [(q s.m).2], at_ := s.at_ + 1, left := 0 } := by
  unfold PS.ask
  rw [if_neg (by omega), if_neg (by rw [hl]; decide), if_pos (by rw [hl]; decide), hl]
  rfl
theorem ask_no {q : M → M × Ans} (h2 : s.at_ = s.log.length) (hl : s.left = 0) : s.ask q = .out s := by
  unfold PS.ask
  rw [if_neg (by omega), if_pos hl]
end
section
variable {h k : Int} {N : Nat} {s s1 s2 : PS}
end
/-- A machine that hasn't ended, and one that has. -/
def Run_ (x : MS) : Prop := x.ended = false ∧ Wl x.p.log
def End_ (c : Int) (x : MS) : Prop := x.ended = true ∧ x.p.log = [] ∧ ∃ j : Int, 0 ≤ j ∧ j < c ∧ x.out = .iface 3 (.int .i64 j)
end Go.Proofs.Ythgbgflpjggpmaa.Mem
