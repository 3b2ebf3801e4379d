/- Memory's functions by hand, on: what stores, frees, retires and reaps. -/
import Derived.Test.YtahnmklofgnagaaMem2
namespace Go.Proofs.Ytahnmklofgnagaa.Mem
open Go.RowKit Go.Proofs.YtahnmklofgnagaaW.PrintWords Go.Proofs.Ytahnmklofgnagaa.Tags
set_option linter.unusedVariables false
set_option linter.unusedSimpArgs false
section
variable {w : World} {mb cb : Nat} {m : M}
theorem M.tick_len (m : M) : m.tick.cells.length = m.cells.length := rfl
/-- What a call comes to: its answer, and memory behind it. -/
def Ends (w : World) (mb cb : Nat) (a : Value) (m' : M) (e : Ending) (w' : World) : Prop := e = .returned a ∧ At w' mb cb m' ∧ Fr w w' mb cb
def M.hold (m : M) (i : Nat) (v : Value) : M := m.put i { m.at i with v := v }
/-- Asked to hold another word. -/
def M.store (m : M) (x n : Int) : M × Int := match m.find x with
  | none => (m.gone, 5)
  | some i => match numOf (m.at i).v with
    | some _ => (m.tick.hold i (number n), 0)
    | none => (m.tick, 6)
def M.swap (m : M) (x old n : Int) : M × Bool × Int := match m.find x with
  | none => (m.gone, false, 5)
  | some i => match numOf (m.at i).v with
    | some k => if k = old then (m.tick.hold i (number n), true, 0) else (m.tick, false, 0)
    | none => (m.tick, false, 6)
def M.free (m : M) (x : Int) : M × Int := match m.find x with
  | none => (m.gone, 5)
  | some i => (m.tick.freed i, 0)
def Cl.retire (c : Cl) (s : Int) : Cl := { c with stamp := if c.ret = false ∨ c.stamp < s then s else c.stamp, ret := true }
def M.retire (m : M) (x s : Int) : M × Int := match m.find x with
  | none => (m.gone, 5)
  | some i => (m.tick.put i ((m.at i).retire s), 0)
def M.load (m : M) (x : Int) : M × Value × Int := match m.find x with
  | none => (m.gone, .nilIface, 5)
  | some i => match numOf (m.at i).v with
    | some _ => (m.tick, .nilIface, 6)
    | none => (m.tick, (m.at i).v, 0)
def M.reap (m : M) (p b : Int) : M × Bool × Int :=
  if p < 0 ∨ (m.cells.length : Int) ≤ p then (m.tick, false, 10)
  else if (m.at p.toNat).free = true ∨ (m.at p.toNat).ret = false ∨ b ≤ (m.at p.toNat).stamp then (m.tick, false, 0) else (m.tick.freed p.toNat, true, 0)
set_option maxHeartbeats 800000 in
theorem Store_calls (h : At w mb cb m) (x n : Int) : Calls Try.prog 129 #[ptr mb, .int .i64 x, .int .i64 n] w (Ends w mb cb (.int .i64 (m.store x n).2) (m.store x n).1) := by
  rcases ways h x with hf | ⟨i, k, hf, hn⟩ | ⟨i, T, u, hf, hn, hT⟩
  · have e : m.store x n = (m.gone, 5) := by unfold M.store; rw [hf]
    rw [e]
    have HC := Lib.hid (word_miss h x hf)
    clear hf e
    go_enter Try.func129, Try.ntmps129
    go_wp2_with fail
    refine HC.out.mono ?_
    rintro e w1 ⟨rfl, hA, hF⟩
    go_wp2
    go_ret
    exact ⟨rfl, hA, hF⟩
  · have hi := find_lt hf
    have e : m.store x n = (m.tick.hold i (number n), 0) := by unfold M.store; rw [hf]; simp only [hn, numOf_number]
    rw [e]
    have HC := Lib.hid (word_hit h x i hf k hn)
    have HN := Lib.hid hn
    clear hf e hn
    go_enter Try.func129, Try.ntmps129
    go_wp2_with fail
    refine HC.out.mono ?_
    rintro e w1 ⟨rfl, hA, hF⟩
    have a1 : w1.cell? ⟨cb, i * 4, none⟩ = some (number k) := (hA.v_ (i := i) hi).trans (congrArg some HN.out)
    have z1 := hA.fzc (i * 4)
    go_wp2
    go_ret
    exact ⟨rfl, hA.set_v hi (number n) (Or.inr (Or.inl ⟨n, rfl⟩)), hF.set _ (Or.inr rfl) _⟩
  · have e : m.store x n = (m.tick, 6) := by unfold M.store; rw [hf]; simp only [hn, numOf_block hT]
    rw [e]
    have HC := Lib.hid (word_kind h x i hf T u hn hT)
    clear hf e hn hT
    go_enter Try.func129, Try.ntmps129
    go_wp2_with fail
    refine HC.out.mono ?_
    rintro e w1 ⟨rfl, hA, hF⟩
    go_wp2
    go_ret
    exact ⟨rfl, hA, hF⟩
set_option maxHeartbeats 800000 in
theorem Swap_calls (h : At w mb cb m) (x old n : Int) : Calls Try.prog 127 #[ptr mb, .int .i64 x, .int .i64 old, .int .i64 n] w (Ends w mb cb (.tuple #[.bool (m.swap x old n).2.1, .int .i64 (m.swap x old n).2.2]) (m.swap x old n).1) := by
  rcases ways h x with hf | ⟨i, k, hf, hn⟩ | ⟨i, T, u, hf, hn, hT⟩
  · have e : m.swap x old n = (m.gone, false, 5) := by unfold M.swap; rw [hf]
    rw [e]
    have HC := Lib.hid (word_miss h x hf)
    clear hf e
    go_enter Try.func127, Try.ntmps127
    go_wp2_with fail
    refine HC.out.mono ?_
    rintro e w1 ⟨rfl, hA, hF⟩
    go_wp2
    go_ret2
    exact ⟨rfl, hA, hF⟩
  · have hi := find_lt hf
    by_cases hk : k = old
    · have e : m.swap x old n = (m.tick.hold i (number n), true, 0) := by unfold M.swap; rw [hf]; simp only [hn, numOf_number]; rw [if_pos hk]
      rw [e]
      have HC := Lib.hid (word_hit h x i hf k hn)
      have HN := Lib.hid hn
      clear hf e hn
      subst hk
      go_enter Try.func127, Try.ntmps127
      go_wp2_with fail
      refine HC.out.mono ?_
      rintro e w1 ⟨rfl, hA, hF⟩
      have a1 : w1.cell? ⟨cb, i * 4, none⟩ = some (number k) := (hA.v_ (i := i) hi).trans (congrArg some HN.out)
      have z1 := hA.fzc (i * 4)
      have g1 : (k != k) = false := by simp
      go_wp2
      go_ret2
      exact ⟨rfl, hA.set_v hi (number n) (Or.inr (Or.inl ⟨n, rfl⟩)), hF.set _ (Or.inr rfl) _⟩
    · have e : m.swap x old n = (m.tick, false, 0) := by unfold M.swap; rw [hf]; simp only [hn, numOf_number]; rw [if_neg hk]
      rw [e]
      have HC := Lib.hid (word_hit h x i hf k hn)
      have g1 : (k != old) = true := bne_iff_ne.2 hk
      clear hf e hn hk
      go_enter Try.func127, Try.ntmps127
      go_wp2_with fail
      refine HC.out.mono ?_
      rintro e w1 ⟨rfl, hA, hF⟩
      go_wp2
      go_ret2
      exact ⟨rfl, hA, hF⟩
  · have e : m.swap x old n = (m.tick, false, 6) := by unfold M.swap; rw [hf]; simp only [hn, numOf_block hT]
    rw [e]
    have HC := Lib.hid (word_kind h x i hf T u hn hT)
    clear hf e hn hT
    go_enter Try.func127, Try.ntmps127
    go_wp2_with fail
    refine HC.out.mono ?_
    rintro e w1 ⟨rfl, hA, hF⟩
    go_wp2
    go_ret2
    exact ⟨rfl, hA, hF⟩
set_option maxHeartbeats 800000 in
theorem Free_calls (h : At w mb cb m) (x : Int) : Calls Try.prog 84 #[ptr mb, .int .i64 x] w (Ends w mb cb (.int .i64 (m.free x).2) (m.free x).1) := by
  cases hf : m.find x with
  | none =>
    have e : m.free x = (m.gone, 5) := by unfold M.free; rw [hf]
    rw [e]
    have HC := Lib.hid (cell_miss h x hf)
    clear hf e
    go_enter Try.func84, Try.ntmps84
    go_wp2_with fail
    refine HC.out.mono ?_
    rintro e w1 ⟨rfl, hA, hF⟩
    go_wp2
    go_ret
    exact ⟨rfl, hA, hF⟩
  | some i =>
    have hi := find_lt hf
    have e : m.free x = (m.tick.freed i, 0) := by unfold M.free; rw [hf]
    rw [e]
    have HC := Lib.hid (cell_hit h x i hf)
    clear hf e
    go_enter Try.func84, Try.ntmps84
    go_wp2_with fail
    refine HC.out.mono ?_
    rintro e w1 ⟨rfl, hA, hF⟩
    go_wp2_with fail
    refine (free_calls hA (i := i) hi).mono ?_
    rintro e w2 ⟨rfl, hA2, hF2⟩
    go_wp2
    go_ret
    exact ⟨rfl, hA2, hF.trans hF2⟩
set_option maxHeartbeats 800000 in
theorem Retire_calls (h : At w mb cb m) (x s : Int) : Calls Try.prog 124 #[ptr mb, .int .i64 x, .int .i64 s] w (Ends w mb cb (.int .i64 (m.retire x s).2) (m.retire x s).1) := by
  cases hf : m.find x with
  | none =>
    have e : m.retire x s = (m.gone, 5) := by unfold M.retire; rw [hf]
    rw [e]
    have HC := Lib.hid (cell_miss h x hf)
    clear hf e
    go_enter Try.func124, Try.ntmps124
    go_wp2_with fail
    refine HC.out.mono ?_
    rintro e w1 ⟨rfl, hA, hF⟩
    go_wp2
    go_ret
    exact ⟨rfl, hA, hF⟩
  | some i =>
    have hi := find_lt hf
    have e : m.retire x s = (m.tick.put i ((m.at i).retire s), 0) := by unfold M.retire; rw [hf]
    rw [e]
    have HC := Lib.hid (cell_hit h x i hf)
    clear hf e
    obtain ⟨b, hb⟩ : ∃ b, (m.at i).ret = b := ⟨_, rfl⟩
    obtain ⟨t, ht⟩ : ∃ t, (m.at i).stamp = t := ⟨_, rfl⟩
    have HB := Lib.hid hb
    have HT := Lib.hid ht
    clear hb ht
    by_cases hc : b = false ∨ t < s
    · have hr : (m.at i).retire s = { m.at i with stamp := s, ret := true } := by unfold Cl.retire; rw [HB.out, HT.out, if_pos hc]
      have HR := Lib.hid hr
      clear hr
      rcases hc with hc | hc
      · subst hc
        go_enter Try.func124, Try.ntmps124
        go_wp2_with fail
        refine HC.out.mono ?_
        rintro e w1 ⟨rfl, hA, hF⟩
        have a2 : w1.cell? ⟨cb, i * 4 + 2, none⟩ = some (.int .i64 t) := (hA.stamp_ (i := i) hi).trans (congrArg (fun z => some (Value.int .i64 z)) HT.out)
        have a3 : w1.cell? ⟨cb, i * 4 + 3, none⟩ = some (.bool false) := (hA.ret_ (i := i) hi).trans (congrArg (fun z => some (Value.bool z)) HB.out)
        have z2 := hA.fzc (i * 4 + 2)
        have z3 := hA.fzc (i * 4 + 3)
        go_wp2
        go_ret
        refine ⟨rfl, ?_, (hF.set _ (Or.inr rfl) _).set _ (Or.inr rfl) _⟩
        refine At.cast ((hA.set_stamp hi s).set_ret (by rw [M.put_len]; exact hi) true) ?_
        rw [M.put_put, M.at_put (m := m.tick) hi, HR.out]
        rfl
      · have g1 : decide (t < s) = true := decide_eq_true hc
        cases b
        all_goals
          go_enter Try.func124, Try.ntmps124
          go_wp2_with fail
          refine HC.out.mono ?_
          rintro e w1 ⟨rfl, hA, hF⟩
          have a2 : w1.cell? ⟨cb, i * 4 + 2, none⟩ = some (.int .i64 t) := (hA.stamp_ (i := i) hi).trans (congrArg (fun z => some (Value.int .i64 z)) HT.out)
          have a3 := (hA.ret_ (i := i) hi).trans (congrArg (fun z => some (Value.bool z)) HB.out)
          have z2 := hA.fzc (i * 4 + 2)
          have z3 := hA.fzc (i * 4 + 3)
          go_wp2
          go_ret
          refine ⟨rfl, ?_, (hF.set _ (Or.inr rfl) _).set _ (Or.inr rfl) _⟩
          refine At.cast ((hA.set_stamp hi s).set_ret (by rw [M.put_len]; exact hi) true) ?_
          rw [M.put_put, M.at_put (m := m.tick) hi, HR.out]
          rfl
    · have hr : (m.at i).retire s = { m.at i with ret := true } := by unfold Cl.retire; rw [HB.out, HT.out, if_neg hc, ← HT.out]
      have HR := Lib.hid hr
      obtain rfl : b = true := by cases b <;> simp at hc ⊢
      have g1 : decide (t < s) = false := decide_eq_false (fun c => hc (Or.inr c))
      clear hr hc
      go_enter Try.func124, Try.ntmps124
      go_wp2_with fail
      refine HC.out.mono ?_
      rintro e w1 ⟨rfl, hA, hF⟩
      have a2 : w1.cell? ⟨cb, i * 4 + 2, none⟩ = some (.int .i64 t) := (hA.stamp_ (i := i) hi).trans (congrArg (fun z => some (Value.int .i64 z)) HT.out)
      have a3 : w1.cell? ⟨cb, i * 4 + 3, none⟩ = some (.bool true) := (hA.ret_ (i := i) hi).trans (congrArg (fun z => some (Value.bool z)) HB.out)
      have z3 := hA.fzc (i * 4 + 3)
      go_wp2
      go_ret
      refine ⟨rfl, ?_, hF.set _ (Or.inr rfl) _⟩
      refine At.cast (hA.set_ret (i := i) hi true) ?_
      rw [HR.out]
      rfl
end
end Go.Proofs.Ytahnmklofgnagaa.Mem
