/- The program's memory and the document's: they go on alike. Plain laws. -/
import Derived.Test.YthgbgflpjggpmaaMem4
import Derived.Test.YthgbgflpjggpmaaSRef12
namespace Go.Proofs.Ythgbgflpjggpmaa.Mem
open Go.RowKit Go.Proofs.YthgbgflpjggpmaaW.PrintWords Go.Proofs.Ythgbgflpjggpmaa.Tags Go.Proofs.Ythgbgflpjggpmaa.PStepAlone
open Go.Proofs.Ythgbgflpjggpmaa.RefAlloc (R R.at R.find R.look R.swap R.free R.freed R.tick R.retire R.reap S108.retire may put)
set_option linter.unusedVariables false
set_option linter.unusedSimpArgs false
section
theorem room_at {m : M} {i : Nat} (hi : i < m.cells.length) (hm : (m.at i).may = true) (hb : ∀ j, j < i → (m.at j).may = false) : m.room = some i := by
  unfold M.room
  rw [List.findIdx?_eq_some_iff_getElem]
  refine ⟨hi, by rw [← at_get m hi]; exact hm, fun j hj => ?_⟩
  rw [← at_get m (by omega), hb j hj]
  simp
theorem room_not {m : M} (hb : ∀ j, j < m.cells.length → (m.at j).may = false) : m.room = none := by
  unfold M.room
  rw [List.findIdx?_eq_none_iff]
  intro c hc
  obtain ⟨j, hj, rfl⟩ := List.mem_iff_getElem.1 hc
  have := hb j hj
  rw [at_get m hj] at this
  exact this
theorem alloc_at {m : M} {i : Nat} (v : Value) (hi : i < m.cells.length) (hm : (m.at i).may = true) (hb : ∀ j, j < i → (m.at j).may = false) : m.alloc v = (m.tick.taken i v, hOf i (m.at i).gen, 0) := by
  unfold M.alloc M.putv
  have e : m.tick.room = some i := room_at (m := m.tick) hi hm hb
  rw [e]
  rfl
theorem alloc_full {m : M} (v : Value) (hb : ∀ j, j < m.cells.length → (m.at j).may = false) : m.alloc v = (m.tick, 0, 3) := by
  unfold M.alloc M.putv
  have e : m.tick.room = none := room_not (m := m.tick) hb
  rw [e]
theorem M.new_at (n i : Nat) : (M.new n).at i = c0 := by
  unfold M.at M.new
  rw [List.getD_eq_getElem?_getD, List.getElem?_replicate]
  split <;> rfl
/-- A block of the laws: a number in a struct. -/
abbrev note (n : Int) : Value := .iface 99 (.agg #[.int .i64 n])
def CSim (c : Cl) (x : S108) : Prop := c.gen = x.f2 ∧ c.stamp = x.f3 ∧ c.ret = x.f4 ∧ 0 ≤ x.f2 ∧ x.f2 ≤ 16384 ∧ ((x.f0 = 0 ∧ c.v = .nilIface ∧ x.f4 = false) ∨ (x.f0 = 1 ∧ c.v = number x.f1 ∧ x.f2 ≤ 16383) ∨ (x.f0 = 2 ∧ c.v = note x.f1 ∧ x.f2 ≤ 16383))
structure Sim (m : M) (r : R) : Prop where
  c : m.count = r.c
  lv : m.live = r.lv
  st : m.stale = r.st
  len : m.cells.length = r.l.length
  cell : ∀ i, i < m.cells.length → CSim (m.at i) (r.at i)
theorem CSim.free {c : Cl} {x : S108} (h : CSim c x) : c.free = decide (x.f0 = 0) := by
  obtain ⟨_, _, _, _, _, h⟩ := h
  rcases h with ⟨a, b, _⟩ | ⟨a, b, _⟩ | ⟨a, b, _⟩ <;> (unfold Cl.free; rw [b, a]; rfl)
theorem CSim.may_ {c : Cl} {x : S108} (h : CSim c x) : c.may = may x := by
  unfold Cl.may may
  rw [h.free, h.1]
theorem Sim.find {m : M} {r : R} (h : Sim m r) (q : Int) : m.find q = r.find q := by
  unfold M.find R.find
  by_cases c1 : hr q = true
  · have hb := (hr_iff q).1 c1
    obtain ⟨i, ei⟩ : ∃ i : Nat, q % 65536 - 1 = (i : Int) := ⟨(q % 65536 - 1).toNat, by omega⟩
    rw [ei, Int.toNat_natCast, h.len]
    by_cases hi : (i : Int) < (r.l.length : Int)
    · have hc := h.cell i (by rw [h.len]; omega)
      rw [hc.free, hc.1]
      congr 1
      simp
    · rw [if_neg (fun k => hi k.2.1), if_neg (fun k => hi k.2.1)]
  · rw [if_neg (fun k => c1 k.1), if_neg (fun k => c1 k.1)]
theorem Sim.tick {m : M} {r : R} (h : Sim m r) : Sim m.tick r.tick := ⟨by show wrap64 (m.count + 1) = wrap64 (r.c + 1); rw [h.c], h.lv, h.st, h.len, h.cell⟩
theorem Sim.gone {m : M} {r : R} (h : Sim m r) : Sim m.gone ⟨r.l, wrap64 (r.c + 1), r.lv, wrap64 (r.st + 1)⟩ := ⟨by show wrap64 (m.count + 1) = wrap64 (r.c + 1); rw [h.c], h.lv, by show wrap64 (m.stale + 1) = wrap64 (r.st + 1); rw [h.st], h.len, h.cell⟩
theorem r_at_set {l : List S108} {i : Nat} (hi : i < l.length) (x : S108) (c lv st : Int) : R.at ⟨l.set i x, c, lv, st⟩ i = x := by simp [R.at, List.getD_eq_getElem?_getD, List.getElem?_set_self hi]
theorem r_at_ne {l : List S108} {i j : Nat} (h : i ≠ j) (x : S108) (c lv st c' lv' st' : Int) : R.at ⟨l.set i x, c, lv, st⟩ j = R.at ⟨l, c', lv', st'⟩ j := by simp [R.at, List.getD_eq_getElem?_getD, List.getElem?_set_ne h]
/-- One cell is turned in both. -/
theorem Sim.put {m : M} {r : R} (h : Sim m r) {i : Nat} (hi : i < m.cells.length) {c : Cl} {x : S108} (hc : CSim c x) {k lv : Int} : Sim ⟨m.cells.set i c, k, lv, m.stale⟩ ⟨r.l.set i x, k, lv, r.st⟩ := by
  have hi' : i < r.l.length := by rw [← h.len]; exact hi
  refine ⟨rfl, rfl, h.st, by simp [h.len], fun j hj => ?_⟩
  have hj' : j < m.cells.length := by simpa using hj
  by_cases e : i = j
  · subst e
    rw [r_at_set hi']
    have : M.at ⟨m.cells.set i c, k, lv, m.stale⟩ i = c := by
      unfold M.at
      rw [List.getD_eq_getElem?_getD, List.getElem?_set_self hi]
      rfl
    rw [this]
    exact hc
  · rw [r_at_ne e (c' := r.c) (lv' := r.lv) (st' := r.st)]
    have : M.at ⟨m.cells.set i c, k, lv, m.stale⟩ j = m.at j := by
      unfold M.at
      simp only [List.getD_eq_getElem?_getD, List.getElem?_set_ne e]
    rw [this]
    exact h.cell j hj'
theorem Sim.word {m : M} {r : R} (h : Sim m r) (q : Int) : (m.word q).2 = (r.look q 1).2 ∧ Sim (m.word q).1 (r.look q 1).1 := by
  unfold M.word R.look
  rw [h.find q]
  cases hf : r.find q with
  | none => exact ⟨rfl, h.gone⟩
  | some i =>
    have hi : i < m.cells.length := find_lt (by rw [h.find q]; exact hf)
    have hheld := find_held (m := m) (by rw [h.find q]; exact hf)
    obtain ⟨a1, a2, a3, a4, a5, a6⟩ := h.cell i hi
    rcases a6 with ⟨b1, b2, _⟩ | ⟨b1, b2, _⟩ | ⟨b1, b2, _⟩
    · unfold Cl.free at hheld; rw [b2] at hheld; cases hheld
    · simp only [b2, numOf_number]
      rw [if_pos b1]
      exact ⟨rfl, h.tick⟩
    · have : numOf (note (r.at i).f1) = none := rfl
      simp only [b2, this]
      rw [if_neg (by omega)]
      exact ⟨rfl, h.tick⟩
theorem Sim.load {m : M} {r : R} (h : Sim m r) (q : Int) : ((m.load q).2.2 = (r.look q 2).2.2 ∧ Sim (m.load q).1 (r.look q 2).1) ∧ (((r.look q 2).2.2 = 0 ∧ (m.load q).2.1 = note (r.look q 2).2.1) ∨ (((r.look q 2).2.2 = 5 ∨ (r.look q 2).2.2 = 6) ∧ (m.load q).2.1 = .nilIface)) := by
  unfold M.load R.look
  rw [h.find q]
  cases hf : r.find q with
  | none => exact ⟨⟨rfl, h.gone⟩, Or.inr ⟨Or.inl rfl, rfl⟩⟩
  | some i =>
    have hi : i < m.cells.length := find_lt (by rw [h.find q]; exact hf)
    have hheld := find_held (m := m) (by rw [h.find q]; exact hf)
    obtain ⟨a1, a2, a3, a4, a5, a6⟩ := h.cell i hi
    rcases a6 with ⟨b1, b2, _⟩ | ⟨b1, b2, _⟩ | ⟨b1, b2, _⟩
    · unfold Cl.free at hheld; rw [b2] at hheld; cases hheld
    · simp only [b2, numOf_number]
      rw [if_neg (by omega)]
      exact ⟨⟨rfl, h.tick⟩, Or.inr ⟨Or.inr rfl, trivial⟩⟩
    · have : numOf (note (r.at i).f1) = none := rfl
      simp only [b2, this]
      rw [if_pos b1]
      exact ⟨⟨rfl, h.tick⟩, Or.inl ⟨rfl, rfl⟩⟩
theorem CSim.hold {c : Cl} {x : S108} (h : CSim c x) (hx : x.f0 = 1) (n : Int) : CSim { c with v := number n } { x with f1 := n } := by
  obtain ⟨a1, a2, a3, a4, a5, a6⟩ := h
  refine ⟨a1, a2, a3, a4, a5, Or.inr (Or.inl ⟨hx, rfl, ?_⟩)⟩
  rcases a6 with ⟨b1, _⟩ | ⟨_, _, b⟩ | ⟨b1, _⟩
  · rw [hx] at b1; cases b1
  · exact b
  · rw [hx] at b1; cases b1
theorem Sim.store {m : M} {r : R} (h : Sim m r) (q n : Int) : (m.store q n).2 = (r.swap q 0 n true).2.2 ∧ Sim (m.store q n).1 (r.swap q 0 n true).1 := by
  unfold M.store R.swap
  rw [h.find q]
  cases hf : r.find q with
  | none => exact ⟨rfl, h.gone⟩
  | some i =>
    have hi : i < m.cells.length := find_lt (by rw [h.find q]; exact hf)
    have hheld := find_held (m := m) (by rw [h.find q]; exact hf)
    have hcs := h.cell i hi
    obtain ⟨a1, a2, a3, a4, a5, a6⟩ := h.cell i hi
    rcases a6 with ⟨b1, b2, _⟩ | ⟨b1, b2, _⟩ | ⟨b1, b2, _⟩
    · unfold Cl.free at hheld; rw [b2] at hheld; cases hheld
    · simp only [b2, numOf_number]
      rw [if_pos b1, if_pos (Or.inl trivial)]
      refine ⟨rfl, ?_⟩
      have := h.tick.put (i := i) hi (hcs.hold b1 n) (k := wrap64 (r.c + 1)) (lv := r.lv)
      have e : m.tick.hold i (number n) = ⟨m.tick.cells.set i { m.at i with v := number n }, wrap64 (r.c + 1), r.lv, m.tick.stale⟩ := by
        unfold M.hold M.put M.tick
        rw [h.c, h.lv]
        rfl
      rw [e]
      exact this
    · have : numOf (note (r.at i).f1) = none := rfl
      simp only [b2, this]
      rw [if_neg (by omega)]
      exact ⟨rfl, h.tick⟩
theorem Sim.swap {m : M} {r : R} (h : Sim m r) (q o n : Int) : (m.swap q o n).2 = (r.swap q o n false).2 ∧ Sim (m.swap q o n).1 (r.swap q o n false).1 := by
  unfold M.swap R.swap
  rw [h.find q]
  cases hf : r.find q with
  | none => exact ⟨rfl, h.gone⟩
  | some i =>
    have hi : i < m.cells.length := find_lt (by rw [h.find q]; exact hf)
    have hheld := find_held (m := m) (by rw [h.find q]; exact hf)
    have hcs := h.cell i hi
    obtain ⟨a1, a2, a3, a4, a5, a6⟩ := h.cell i hi
    rcases a6 with ⟨b1, b2, _⟩ | ⟨b1, b2, _⟩ | ⟨b1, b2, _⟩
    · unfold Cl.free at hheld; rw [b2] at hheld; cases hheld
    · simp only [b2, numOf_number]
      rw [if_pos b1]
      by_cases ho : (r.at i).f1 = o
      · rw [if_pos ho, if_pos (Or.inr ho)]
        refine ⟨rfl, ?_⟩
        have := h.tick.put (i := i) hi (hcs.hold b1 n) (k := wrap64 (r.c + 1)) (lv := r.lv)
        have e : m.tick.hold i (number n) = ⟨m.tick.cells.set i { m.at i with v := number n }, wrap64 (r.c + 1), r.lv, m.tick.stale⟩ := by
          unfold M.hold M.put M.tick
          rw [h.c, h.lv]
          rfl
        rw [e]
        exact this
      · rw [if_neg ho, if_neg (fun z => z.elim (by simp) ho)]
        exact ⟨rfl, h.tick⟩
    · have : numOf (note (r.at i).f1) = none := rfl
      simp only [b2, this]
      rw [if_neg (by omega)]
      exact ⟨rfl, h.tick⟩
theorem Sim.freed {m : M} {r : R} (h : Sim m r) {i : Nat} (hi : i < m.cells.length) (hh : (m.at i).free = false) : Sim (m.freed i) (r.freed i) := by
  obtain ⟨a1, a2, a3, a4, a5, a6⟩ := h.cell i hi
  have hg : (r.at i).f2 ≤ 16383 := by
    rcases a6 with ⟨_, b2, _⟩ | ⟨_, _, b⟩ | ⟨_, _, b⟩
    · unfold Cl.free at hh; rw [b2] at hh; cases hh
    · exact b
    · exact b
  have ew : wrap64 ((r.at i).f2 + 1) = (r.at i).f2 + 1 := by unfold wrap64; omega
  have hc : CSim ⟨.nilIface, wrap64 ((m.at i).gen + 1), 0, false⟩ ⟨0, 0, wrap64 ((r.at i).f2 + 1), 0, false⟩ := by
    rw [a1]
    exact ⟨rfl, rfl, rfl, by show 0 ≤ wrap64 _; rw [ew]; omega, by show wrap64 _ ≤ _; rw [ew]; omega, Or.inl ⟨rfl, rfl, rfl⟩⟩
  have := h.put hi hc (k := r.c) (lv := wrap64 (r.lv - 1))
  have e : m.freed i = ⟨m.cells.set i ⟨.nilIface, wrap64 ((m.at i).gen + 1), 0, false⟩, r.c, wrap64 (r.lv - 1), m.stale⟩ := by
    unfold M.freed M.put
    rw [h.c, h.lv]
  rw [e]
  exact this
theorem Sim.free_ {m : M} {r : R} (h : Sim m r) (q : Int) : (m.free q).2 = (r.free q).2 ∧ Sim (m.free q).1 (r.free q).1 := by
  unfold M.free R.free
  rw [h.find q]
  cases hf : r.find q with
  | none => exact ⟨rfl, h.gone⟩
  | some i =>
    have hi : i < m.cells.length := find_lt (by rw [h.find q]; exact hf)
    exact ⟨rfl, h.tick.freed (i := i) hi (find_held (m := m) (by rw [h.find q]; exact hf))⟩
theorem CSim.retire {c : Cl} {x : S108} (h : CSim c x) (hh : c.free = false) (s : Int) : CSim (c.retire s) (S108.retire x s) := by
  obtain ⟨a1, a2, a3, a4, a5, a6⟩ := h
  have h0 : ¬ x.f0 = 0 := by
    intro e
    have := CSim.free (c := c) (x := x) ⟨a1, a2, a3, a4, a5, a6⟩
    rw [hh, e] at this
    cases this
  unfold Cl.retire S108.retire
  rw [a3, a2]
  by_cases hs : x.f4 = false ∨ x.f3 < s
  · rw [if_pos hs, if_pos hs]
    exact ⟨a1, rfl, rfl, a4, a5, by rcases a6 with b | b | b; exact absurd b.1 h0; exact Or.inr (Or.inl b); exact Or.inr (Or.inr b)⟩
  · rw [if_neg hs, if_neg hs]
    exact ⟨a1, rfl, rfl, a4, a5, by rcases a6 with b | b | b; exact absurd b.1 h0; exact Or.inr (Or.inl b); exact Or.inr (Or.inr b)⟩
theorem Sim.retire {m : M} {r : R} (h : Sim m r) (q s : Int) : (m.retire q s).2 = (r.retire q s).2 ∧ Sim (m.retire q s).1 (r.retire q s).1 := by
  unfold M.retire R.retire
  rw [h.find q]
  cases hf : r.find q with
  | none => exact ⟨rfl, h.gone⟩
  | some i =>
    have hi : i < m.cells.length := find_lt (by rw [h.find q]; exact hf)
    have hh := find_held (m := m) (by rw [h.find q]; exact hf)
    refine ⟨rfl, ?_⟩
    have := h.tick.put (i := i) hi ((h.cell i hi).retire hh s) (k := wrap64 (r.c + 1)) (lv := r.lv)
    have e : m.tick.put i ((m.at i).retire s) = ⟨m.tick.cells.set i ((m.at i).retire s), wrap64 (r.c + 1), r.lv, m.tick.stale⟩ := by
      unfold M.put M.tick
      rw [h.c, h.lv]
    simp only
    rw [e]
    exact this
theorem Sim.reap {m : M} {r : R} (h : Sim m r) (p b : Int) : (m.reap p b).2 = (r.reap p b).2 ∧ Sim (m.reap p b).1 (r.reap p b).1 := by
  unfold M.reap R.reap
  rw [h.len]
  by_cases hp : p < 0 ∨ (r.l.length : Int) ≤ p
  · rw [if_pos hp, if_pos hp]
    exact ⟨rfl, h.tick⟩
  · rw [if_neg hp, if_neg hp]
    have hi : p.toNat < m.cells.length := by rw [h.len]; omega
    have hcs := h.cell _ hi
    obtain ⟨a1, a2, a3, a4, a5, a6⟩ := h.cell _ hi
    by_cases hf : (m.at p.toNat).free = true
    · have h4 : (r.at p.toNat).f4 = false := by
        rw [hcs.free, decide_eq_true_eq] at hf
        rcases a6 with b | b | b
        · exact b.2.2
        · rw [b.1] at hf; cases hf
        · rw [b.1] at hf; cases hf
      rw [if_pos (Or.inl hf), if_pos (Or.inl h4)]
      exact ⟨rfl, h.tick⟩
    · have hf' : (m.at p.toNat).free = false := by simpa using hf
      by_cases hs : (r.at p.toNat).f4 = false ∨ b ≤ (r.at p.toNat).f3
      · rw [if_pos hs, if_pos (Or.inr (by rw [a3, a2]; exact hs))]
        exact ⟨rfl, h.tick⟩
      · rw [if_neg hs, if_neg (fun z => z.elim hf (by rw [a3, a2]; exact hs))]
        exact ⟨rfl, h.tick.freed (i := p.toNat) hi hf'⟩
/-- The document's Alloc. -/
def R.room (r : R) : Option Nat := r.l.findIdx? may
def R.alloc (r : R) (k n : Int) : R × Int × Int := match R.room r with
  | none => (r.tick, 0, 3)
  | some i => (⟨put r.l i k n, wrap64 (r.c + 1), wrap64 (r.lv + 1), r.st⟩, (r.at i).f2 * 65536 + i + 1, 0)
theorem r_at_get (r : R) {i : Nat} (h : i < r.l.length) : r.at i = r.l[i] := by
  unfold R.at
  rw [List.getD_eq_getElem?_getD, List.getElem?_eq_getElem h]
  rfl
theorem Sim.room {m : M} {r : R} (h : Sim m r) : m.room = R.room r := by
  cases hr : m.room with
  | some i =>
    obtain ⟨h1, h2, h3⟩ := room_some hr
    symm
    unfold R.room
    have h1' : i < r.l.length := by rw [← h.len]; exact h1
    rw [List.findIdx?_eq_some_iff_getElem]
    refine ⟨h1', by rw [← r_at_get r h1', ← (h.cell i h1).may_]; exact h2, fun j hj => ?_⟩
    rw [← r_at_get r (by omega), ← (h.cell j (by omega)).may_, h3 j hj]
    simp
  | none =>
    have h3 := room_none hr
    symm
    unfold R.room
    rw [List.findIdx?_eq_none_iff]
    intro c hc
    obtain ⟨j, hj, rfl⟩ := List.mem_iff_getElem.1 hc
    have hj' : j < m.cells.length := by rw [h.len]; exact hj
    rw [← r_at_get r hj, ← (h.cell j hj').may_]
    exact h3 j hj'
theorem Sim.alloc {m : M} {r : R} (h : Sim m r) (k n : Int) (v : Value) (hv : (k = 1 ∧ v = number n) ∨ (k = 2 ∧ v = note n)) : (m.alloc v).2 = (R.alloc r k n).2 ∧ Sim (m.alloc v).1 (R.alloc r k n).1 := by
  have hroom := h.room
  unfold R.alloc
  cases hr : m.room with
  | none =>
    rw [alloc_full v (room_none hr), ← hroom, hr]
    exact ⟨rfl, h.tick⟩
  | some i =>
    obtain ⟨h1, h2, h3⟩ := room_some hr
    rw [alloc_at v h1 h2 h3, ← hroom, hr]
    obtain ⟨a1, a2, a3, a4, a5, a6⟩ := h.cell i h1
    have h2' := h2
    unfold Cl.may at h2'
    rw [Bool.and_eq_true, decide_eq_true_eq, a1] at h2'
    refine ⟨?_, ?_⟩
    · show (hOf i (m.at i).gen, (0 : Int)) = _
      rw [a1]
      unfold hOf
      rw [if_pos ⟨a4, h2'.2⟩]
    · have hc : CSim { m.at i with v := v } { r.at i with f0 := k, f1 := n } := by
        refine ⟨a1, a2, a3, a4, a5, ?_⟩
        rcases hv with ⟨e1, e2⟩ | ⟨e1, e2⟩
        · exact Or.inr (Or.inl ⟨e1, e2, h2'.2⟩)
        · exact Or.inr (Or.inr ⟨e1, e2, h2'.2⟩)
      have := h.tick.put (i := i) h1 hc (k := wrap64 (r.c + 1)) (lv := wrap64 (r.lv + 1))
      have e : m.tick.taken i v = ⟨m.tick.cells.set i { m.at i with v := v }, wrap64 (r.c + 1), wrap64 (r.lv + 1), m.tick.stale⟩ := by
        unfold M.taken M.hold M.put M.tick
        rw [h.c, h.lv]
        rfl
      show Sim (m.tick.taken i v) _
      rw [e]
      exact this
theorem Sim.start (n : Nat) : Sim (M.new n) ⟨List.replicate n z108, 0, 0, 0⟩ := by
  refine ⟨rfl, rfl, rfl, by simp [M.new], fun i hi => ?_⟩
  rw [M.new_at]
  have hi' : i < n := by simpa [M.new] using hi
  have e : R.at ⟨List.replicate n z108, 0, 0, 0⟩ i = z108 := by simp [R.at, List.getD_eq_getElem?_getD, List.getElem?_replicate, hi']
  rw [e]
  exact ⟨rfl, rfl, rfl, by decide, by decide, Or.inl ⟨rfl, rfl, rfl⟩⟩
end
end Go.Proofs.Ythgbgflpjggpmaa.Mem
