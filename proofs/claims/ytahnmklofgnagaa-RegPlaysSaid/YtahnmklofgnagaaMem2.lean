/- Memory's functions by hand, on: a cell's word, and what asks for cells by their handles. -/
import Derived.Test.YtahnmklofgnagaaMem1
namespace Go.Proofs.Ytahnmklofgnagaa.Mem
open Go.RowKit Go.Proofs.YtahnmklofgnagaaW.PrintWords Go.Proofs.Ytahnmklofgnagaa.Tags
set_option linter.unusedVariables false
set_option linter.unusedSimpArgs false
section
variable {w : World} {mb cb : Nat} {m : M}
theorem ta_num (n : Int) (w : World) : (Instr.typeAssert (.iface 166 (.int .i64 n)) 20 166 true).run Try.prog w = .ok (.tuple #[.int .i64 n, .bool true]) w := by kernel_rfl
theorem ta_not {T : TypeId} (u : Value) (hT : T ≠ 166) (w : World) : (Instr.typeAssert (.iface T u) 20 166 true).run Try.prog w = .ok (.tuple #[.int .i64 0, .bool false]) w := by
  have hu := Try.underlying166
  have hz : (zeroValue 166).run Try.prog w = .ok (.int .i64 0) w := by kernel_rfl
  simp [Instr.typeAssert, run_underlying hu, hT, hz]
theorem find_lt {x : Int} {i : Nat} (h : m.find x = some i) : i < m.cells.length := by
  unfold M.find at h
  split at h
  · rename_i c
    have := (hr_iff x).1 c.1
    injection h with h
    omega
  · cases h
abbrev number (n : Int) : Value := .iface 166 (.int .i64 n)
theorem M.tick_at (m : M) (i : Nat) : m.tick.at i = m.at i := rfl
set_option maxHeartbeats 800000 in
theorem word_hit (h : At w mb cb m) (x : Int) (i : Nat) (hf : m.find x = some i) (n : Int) (hn : (m.at i).v = number n) : Calls Try.prog 116 #[ptr mb, .int .i64 x] w fun e w' => e = .returned (.tuple #[.pointer (some ⟨cb, i * 4, none⟩), .int .i64 n, .int .i64 0]) ∧ At w' mb cb m.tick ∧ Fr w w' mb cb := by
  have hi := find_lt hf
  have HF := Lib.hid hf
  have HN := Lib.hid hn
  clear hf hn
  have ta := ta_num n
  go_enter Try.func116, Try.ntmps116
  go_wp2_with fail
  refine (cell_hit h x i HF.out).mono ?_
  rintro e w1 ⟨rfl, hA, hF⟩
  have a1 : w1.cell? ⟨cb, i * 4, none⟩ = some (number n) := (hA.v_ (i := i) hi).trans (congrArg some HN.out)
  go_wp2
  go_ret3
  exact ⟨rfl, hA, hF⟩
set_option maxHeartbeats 800000 in
theorem word_kind (h : At w mb cb m) (x : Int) (i : Nat) (hf : m.find x = some i) (T : TypeId) (u : Value) (hn : (m.at i).v = .iface T u) (hT : T ≠ 166) : Calls Try.prog 116 #[ptr mb, .int .i64 x] w fun e w' => e = .returned (.tuple #[.pointer none, .int .i64 0, .int .i64 6]) ∧ At w' mb cb m.tick ∧ Fr w w' mb cb := by
  have hi := find_lt hf
  have HF := Lib.hid hf
  have HN := Lib.hid hn
  clear hf hn
  have ta := fun W => ta_not u hT W
  go_enter Try.func116, Try.ntmps116
  go_wp2_with fail
  refine (cell_hit h x i HF.out).mono ?_
  rintro e w1 ⟨rfl, hA, hF⟩
  have a1 : w1.cell? ⟨cb, i * 4, none⟩ = some (.iface T u) := (hA.v_ (i := i) hi).trans (congrArg some HN.out)
  go_wp2
  go_ret3
  exact ⟨rfl, hA, hF⟩
set_option maxHeartbeats 800000 in
theorem word_miss (h : At w mb cb m) (x : Int) (hf : m.find x = none) : Calls Try.prog 116 #[ptr mb, .int .i64 x] w fun e w' => e = .returned (.tuple #[.pointer none, .int .i64 0, .int .i64 5]) ∧ At w' mb cb m.gone ∧ Fr w w' mb cb := by
  have HF := Lib.hid hf
  clear hf
  go_enter Try.func116, Try.ntmps116
  go_wp2_with fail
  refine (cell_miss h x HF.out).mono ?_
  rintro e w1 ⟨rfl, hA, hF⟩
  go_wp2
  go_ret3
  exact ⟨rfl, hA, hF⟩
/-- What a handle's cell holds: 0: it is stale, 1: a word (n), 2: a block. -/
inductive Got where
  | stale
  | word (i : Nat) (n : Int)
  | block (i : Nat) (T : TypeId) (u : Value)
/-- The word that a value is. -/
def numOf (v : Value) : Option Int := match v with | .iface T (.int .i64 n) => if T = 166 then some n else none | _ => none
theorem numOf_number (n : Int) : numOf (number n) = some n := rfl
theorem numOf_block {T : TypeId} {u : Value} (hT : T ≠ 166) : numOf (.iface T u) = none := by
  unfold numOf
  split
  · rename_i e
    injection e with e1 e2
    subst e1
    rw [if_neg hT]
  · rfl
theorem okv_cases {v : Value} (h : OkV v) : v = .nilIface ∨ (∃ n, v = number n) ∨ ∃ T u, v = .iface T u ∧ T ≠ 166 := h
/-- Asked for a word: memory behind it, the word, the error. -/
def M.word (m : M) (x : Int) : M × Int × Int := match m.find x with
  | none => (m.gone, 0, 5)
  | some i => match numOf (m.at i).v with
    | some n => (m.tick, n, 0)
    | none => (m.tick, 0, 6)
theorem find_held {x : Int} {i : Nat} (h : m.find x = some i) : (m.at i).free = false := by
  unfold M.find at h
  split at h
  · rename_i c
    injection h with h
    rw [← h]
    exact c.2.2.1
  · cases h
/-- Three ways of a handle. -/
theorem ways (h : At w mb cb m) (x : Int) : m.find x = none ∨ (∃ i n, m.find x = some i ∧ (m.at i).v = number n) ∨ ∃ i T u, m.find x = some i ∧ (m.at i).v = .iface T u ∧ T ≠ 166 := by
  cases hf : m.find x with
  | none => exact Or.inl rfl
  | some i =>
    refine Or.inr ?_
    have hx := find_held hf
    rcases h.okv i with e | ⟨n, e⟩ | ⟨T, u, e, hT⟩
    · unfold Cl.free at hx
      rw [e] at hx
      cases hx
    · exact Or.inl ⟨i, n, rfl, e⟩
    · exact Or.inr ⟨i, T, u, rfl, e, hT⟩
theorem M.word_hit {x : Int} {i : Nat} {n : Int} (hf : m.find x = some i) (hn : (m.at i).v = number n) : m.word x = (m.tick, n, 0) := by unfold M.word; rw [hf]; simp only [hn, numOf_number]
theorem M.word_kind {x : Int} {i : Nat} {T : TypeId} {u : Value} (hf : m.find x = some i) (hn : (m.at i).v = .iface T u) (hT : T ≠ 166) : m.word x = (m.tick, 0, 6) := by unfold M.word; rw [hf]; simp only [hn, numOf_block hT]
theorem M.word_miss {x : Int} (hf : m.find x = none) : m.word x = (m.gone, 0, 5) := by unfold M.word; rw [hf]
set_option maxHeartbeats 800000 in
theorem Word_of (x k n e : Int) (p : Value) (m' : M) (hc : Calls Try.prog 116 #[ptr mb, .int .i64 x] w fun z w' => z = .returned (.tuple #[p, .int .i64 n, .int .i64 e]) ∧ At w' mb cb m' ∧ Fr w w' mb cb) :
    Calls Try.prog 76 #[ptr mb, .int .i64 x] w fun z w' => z = .returned (.tuple #[.int .i64 n, .int .i64 e]) ∧ At w' mb cb m' ∧ Fr w w' mb cb := by
  have HC := Lib.hid hc
  clear hc
  go_enter Try.func76, Try.ntmps76
  go_wp2_with fail
  refine HC.out.mono ?_
  rintro e w1 ⟨rfl, hA, hF⟩
  go_wp2
  go_ret2
  exact ⟨rfl, hA, hF⟩
theorem Word_calls (h : At w mb cb m) (x : Int) : Calls Try.prog 76 #[ptr mb, .int .i64 x] w fun z w' => z = .returned (.tuple #[.int .i64 (m.word x).2.1, .int .i64 (m.word x).2.2]) ∧ At w' mb cb (m.word x).1 ∧ Fr w w' mb cb := by
  rcases ways h x with hf | ⟨i, n, hf, hn⟩ | ⟨i, T, u, hf, hn, hT⟩
  · rw [M.word_miss hf]; exact Word_of x 0 _ _ _ _ (word_miss h x hf)
  · rw [M.word_hit hf hn]; exact Word_of x 0 _ _ _ _ (word_hit h x i hf n hn)
  · rw [M.word_kind hf hn hT]; exact Word_of x 0 _ _ _ _ (word_kind h x i hf T u hn hT)
end
end Go.Proofs.Ytahnmklofgnagaa.Mem
