/- Memory as a map from handles to what they hold: what each ask makes of it. Plain lemmas. -/
import Derived.Test.YtahnmklofgnagaaMem4
namespace Go.Proofs.Ytahnmklofgnagaa.Mem
open Go.RowKit Go.Proofs.YtahnmklofgnagaaW.PrintWords Go.Proofs.Ytahnmklofgnagaa.Tags
set_option linter.unusedVariables false
set_option linter.unusedSimpArgs false
section
variable {m m' : M} {x y : Int} {i : Nat} {n k : Nat} {g : Int}
/-- What a handle holds. -/
def M.val (m : M) (h : Int) : Option Value := (m.find h).map fun i => (m.at i).v
theorem at_cells (e : m'.cells = m.cells) (i : Nat) : m'.at i = m.at i := by unfold M.at; rw [e]
theorem find_iff : m.find x = some i ↔ hr x = true ∧ x % 65536 - 1 = i ∧ i < m.cells.length ∧ (m.at i).free = false ∧ (m.at i).gen = x / 65536 := by
  unfold M.find
  constructor
  · intro h
    split at h
    · rename_i c
      obtain ⟨c1, c2, c3, c4⟩ := c
      have hb := (hr_iff x).1 c1
      injection h with h
      have ei : x % 65536 - 1 = (i : Int) := by omega
      rw [h] at c3 c4
      exact ⟨c1, ei, by omega, c3, c4⟩
    · cases h
  · rintro ⟨c1, ei, c2, c3, c4⟩
    have e : (x % 65536 - 1).toNat = i := by omega
    rw [if_pos ⟨c1, by omega, by rw [e]; exact c3, by rw [e]; exact c4⟩, e]
theorem find_cells (e : m'.cells = m.cells) (h : Int) : m'.find h = m.find h := by
  unfold M.find M.at; rw [e]
theorem val_cells (e : m'.cells = m.cells) (h : Int) : m'.val h = m.val h := by
  unfold M.val; rw [find_cells e]; unfold M.at; rw [e]
theorem val_some {u : Value} : m.val x = some u ↔ ∃ i, m.find x = some i ∧ (m.at i).v = u := by
  unfold M.val
  cases m.find x with
  | none => simp
  | some i => simp
theorem val_none : m.val x = none ↔ m.find x = none := by
  unfold M.val
  cases m.find x with
  | none => simp
  | some i => simp
theorem val_congr (hf : ∀ i, m'.find y = some i ↔ m.find y = some i) (hv : ∀ i, m.find y = some i → (m'.at i).v = (m.at i).v) : m'.val y = m.val y := by
  unfold M.val
  cases h : m.find y with
  | none =>
    cases h' : m'.find y with
    | none => rfl
    | some j => exact absurd ((hf j).1 h') (by rw [h]; simp)
  | some i => rw [(hf i).2 h]; simp [hv i h]
/-- The shape of memory: how many cells there are, and how many of these hold something; the greatest generation. -/
def Cl.held (c : Cl) : Bool := !c.free
structure Shape (m : M) (n k : Nat) (g : Int) : Prop where
  len : m.cells.length = n
  used : m.cells.countP Cl.held = k
  live : m.live = k
  gens : ∀ c ∈ m.cells, 0 ≤ c.gen ∧ c.gen ≤ g
  big : n ≤ 65535
theorem Shape.of_cells (h : Shape m n k g) (e : m'.cells = m.cells) (el : m'.live = m.live) : Shape m' n k g := ⟨by rw [e]; exact h.len, by rw [e]; exact h.used, by rw [el]; exact h.live, by rw [e]; exact h.gens, h.big⟩
theorem Shape.kn (h : Shape m n k g) : k ≤ n := by rw [← h.used, ← h.len]; exact List.countP_le_length
theorem Shape.gen (h : Shape m n k g) {i : Nat} (hi : i < n) : 0 ≤ (m.at i).gen ∧ (m.at i).gen ≤ g := by
  have hi' : i < m.cells.length := by rw [h.len]; exact hi
  rw [at_get m hi']
  exact h.gens _ (List.getElem_mem hi')
theorem at_put_ (m : M) {i : Nat} (hi : i < m.cells.length) (c : Cl) (j : Nat) : (m.put i c).at j = if j = i then c else m.at j := by
  by_cases e : j = i
  · rw [if_pos e, e, M.at_put hi]
  · rw [if_neg e]
    unfold M.at M.put
    rw [List.getD_eq_getElem?_getD, List.getD_eq_getElem?_getD, List.getElem?_set_ne (Ne.symm e)]
theorem put_count (m : M) {i : Nat} (hi : i < m.cells.length) (c : Cl) : (m.put i c).cells.countP Cl.held + (if (m.at i).held = true then 1 else 0) = m.cells.countP Cl.held + (if c.held = true then 1 else 0) := by
  unfold M.put
  have hp : (if (m.at i).held = true then 1 else 0) ≤ m.cells.countP Cl.held := by
    split
    · rename_i e
      rw [at_get m hi] at e
      exact List.countP_pos_iff.2 ⟨_, List.getElem_mem hi, e⟩
    · exact Nat.zero_le _
  rw [at_get m hi] at hp ⊢
  rw [List.countP_set hi]
  omega
theorem put_gens (h : Shape m n k g) {i : Nat} {c : Cl} {g' : Int} (hg : g ≤ g') (hc : 0 ≤ c.gen ∧ c.gen ≤ g') : ∀ d ∈ (m.put i c).cells, 0 ≤ d.gen ∧ d.gen ≤ g' := by
  intro d hd
  unfold M.put at hd
  rcases List.mem_or_eq_of_mem_set hd with hd | rfl
  · have := h.gens d hd; omega
  · exact hc
theorem shape_put (h : Shape m n k g) {i : Nat} (hi : i < n) (c : Cl) (hf : c.held = (m.at i).held) (hc : 0 ≤ c.gen ∧ c.gen ≤ g) : Shape (m.put i c) n k g := by
  have hi' : i < m.cells.length := by rw [h.len]; exact hi
  refine ⟨by rw [M.put_len]; exact h.len, ?_, h.live, put_gens h (Int.le_refl _) hc, h.big⟩
  have := put_count m hi' c
  rw [hf, h.used] at this
  omega
theorem held_number (c : Cl) (n : Int) : ({ c with v := number n } : Cl).held = true := rfl
theorem held_iface (c : Cl) (T : TypeId) (u : Value) : ({ c with v := .iface T u } : Cl).held = true := rfl
theorem find_held_ {x : Int} {i : Nat} (h : m.find x = some i) : (m.at i).held = true := by unfold Cl.held; rw [find_held h]; rfl
/-- Of two handles of one place the one that is right is the other one. -/
theorem same_handle {x y : Int} (h1 : x % 65536 - 1 = y % 65536 - 1) (h2 : x / 65536 = y / 65536) : x = y := by omega
/-- A cell holds something else; every other handle's stays. -/
theorem val_put (hx : m.find x = some i) (c : Cl) (hg : c.gen = (m.at i).gen) (hf : c.free = false) : (m.put i c).val x = some c.v ∧ ∀ y, y ≠ x → (m.put i c).val y = m.val y := by
  obtain ⟨a1, a2, a3, a4, a5⟩ := find_iff.1 hx
  refine ⟨?_, fun y hy => ?_⟩
  · refine val_some.2 ⟨i, find_iff.2 ⟨a1, a2, by rw [M.put_len]; exact a3, ?_, ?_⟩, ?_⟩
    · rw [M.at_put a3]; exact hf
    · rw [M.at_put a3, hg]; exact a5
    · rw [M.at_put a3]
  · refine val_congr (fun j => ?_) (fun j hj => ?_)
    · rw [find_iff, find_iff, M.put_len, at_put_ m a3]
      by_cases e : j = i
      · subst e
        rw [if_pos rfl]
        constructor
        · rintro ⟨_, b2, _, _, b5⟩
          exact absurd (same_handle (by omega) (by rw [← b5, hg, a5])) hy
        · rintro ⟨_, b2, _, _, b5⟩
          exact absurd (same_handle (by omega) (by rw [← b5, a5])) hy
      · rw [if_neg e]
    · rw [at_put_ m a3]
      by_cases e : j = i
      · subst e
        obtain ⟨_, b2, _, _, b5⟩ := find_iff.1 hj
        exact absurd (same_handle (by omega) (by rw [← b5, a5])) hy
      · rw [if_neg e]
theorem word_val {z : Int} (hv : m.val x = some (number z)) : m.word x = (m.tick, z, 0) := by
  obtain ⟨i, h1, h2⟩ := val_some.1 hv
  exact M.word_hit h1 h2
theorem word_none (hv : m.val x = none) : m.word x = (m.gone, 0, 5) := M.word_miss (val_none.1 hv)
theorem word_block {T : TypeId} {u : Value} (hv : m.val x = some (.iface T u)) (hT : T ≠ 166) : m.word x = (m.tick, 0, 6) := by
  obtain ⟨i, h1, h2⟩ := val_some.1 hv
  exact M.word_kind h1 h2 hT
theorem load_val {T : TypeId} {u : Value} (hv : m.val x = some (.iface T u)) (hT : T ≠ 166) : m.load x = (m.tick, .iface T u, 0) := by
  obtain ⟨i, h1, h2⟩ := val_some.1 hv
  unfold M.load
  rw [h1]
  simp only [h2, numOf_block hT]
theorem load_num {z : Int} (hv : m.val x = some (number z)) : m.load x = (m.tick, .nilIface, 6) := by
  obtain ⟨i, h1, h2⟩ := val_some.1 hv
  unfold M.load
  rw [h1]
  simp only [h2, numOf_number]
theorem load_none (hv : m.val x = none) : m.load x = (m.gone, .nilIface, 5) := by
  unfold M.load
  rw [val_none.1 hv]
/-- What a turn of one handle does. -/
structure Turned (m m' : M) (x : Int) (u : Option Value) : Prop where
  self : m'.val x = u
  other : ∀ y, y ≠ x → m'.val y = m.val y
theorem hold_val (h : Shape m n k g) {u : Value} (hv : m.val x = some u) (z : Int) : ∀ i, m.find x = some i → Turned m (m.tick.hold i (number z)) x (some (number z)) ∧ Shape (m.tick.hold i (number z)) n k g := by
  intro i hi
  obtain ⟨a1, a2, a3, a4, a5⟩ := find_iff.1 hi
  have hi' : m.tick.find x = some i := by rw [find_cells (show m.tick.cells = m.cells from rfl)]; exact hi
  obtain ⟨b1, b2⟩ := val_put hi' { m.tick.at i with v := number z } rfl rfl
  have hlt : i < n := by rw [← h.len]; exact a3
  refine ⟨⟨b1, fun y hy => (b2 y hy).trans (val_cells (show m.tick.cells = m.cells from rfl) y)⟩, ?_⟩
  refine shape_put (h.of_cells (m' := m.tick) rfl rfl) hlt _ ?_ ?_
  · rw [held_number]; exact (find_held_ hi').symm
  · exact h.gen hlt
theorem store_val (h : Shape m n k g) {z : Int} (hv : m.val x = some (number z)) (z' : Int) : ∃ m', m.store x z' = (m', 0) ∧ Turned m m' x (some (number z')) ∧ Shape m' n k g := by
  obtain ⟨i, h1, h2⟩ := val_some.1 hv
  obtain ⟨a, b⟩ := hold_val h hv z' i h1
  refine ⟨_, ?_, a, b⟩
  unfold M.store
  rw [h1]
  simp only [h2, numOf_number]
theorem swap_val (h : Shape m n k g) {z : Int} (hv : m.val x = some (number z)) (z' : Int) : ∃ m', m.swap x z z' = (m', true, 0) ∧ Turned m m' x (some (number z')) ∧ Shape m' n k g := by
  obtain ⟨i, h1, h2⟩ := val_some.1 hv
  obtain ⟨a, b⟩ := hold_val h hv z' i h1
  refine ⟨_, ?_, a, b⟩
  unfold M.swap
  rw [h1]
  simp only [h2, numOf_number, if_true]
theorem swap_not {z z1 : Int} (hv : m.val x = some (number z)) (hz : z ≠ z1) (z' : Int) : m.swap x z1 z' = (m.tick, false, 0) := by
  obtain ⟨i, h1, h2⟩ := val_some.1 hv
  unfold M.swap
  rw [h1]
  simp only [h2, numOf_number, if_neg hz]
theorem free_val (h : Shape m n (k + 1) g) (hg : g ≤ 1000000) {u : Value} (hv : m.val x = some u) : ∃ m', m.free x = (m', 0) ∧ Turned m m' x none ∧ Shape m' n k (g + 1) := by
  obtain ⟨i, h1, h2⟩ := val_some.1 hv
  obtain ⟨a1, a2, a3, a4, a5⟩ := find_iff.1 h1
  have hlt : i < n := by rw [← h.len]; exact a3
  have hgi := h.gen hlt
  have hw : wrap64 ((m.at i).gen + 1) = (m.at i).gen + 1 := by unfold wrap64; omega
  have hkn := h.kn
  have hb := h.big
  have hwl : wrap64 (m.live - 1) = (k : Int) := by rw [h.live]; unfold wrap64; omega
  have hfr : m.free x = (m.tick.freed i, 0) := by unfold M.free; rw [h1]
  have hc : (m.tick.freed i).cells = (m.put i ⟨.nilIface, (m.at i).gen + 1, 0, false⟩).cells := by rw [← hw]; rfl
  refine ⟨_, hfr, ⟨?_, fun y hy => ?_⟩, ?_, ?_, ?_, ?_, h.big⟩
  · rw [val_cells hc, val_none]
    cases hq : (m.put i ⟨.nilIface, (m.at i).gen + 1, 0, false⟩).find x with
    | none => rfl
    | some j =>
      obtain ⟨_, b2, _, b4, _⟩ := find_iff.1 hq
      obtain rfl : j = i := by omega
      rw [M.at_put a3] at b4
      cases b4
  · rw [val_cells hc]
    refine val_congr (fun j => ?_) (fun j hj => ?_)
    · rw [find_iff, find_iff, M.put_len, at_put_ m a3]
      by_cases e : j = i
      · subst e
        rw [if_pos rfl]
        constructor
        · rintro ⟨_, _, _, b4, _⟩
          cases b4
        · rintro ⟨_, b2, _, _, b5⟩
          exact absurd (same_handle (by omega) (by rw [← b5, a5])) hy
      · rw [if_neg e]
    · rw [at_put_ m a3]
      by_cases e : j = i
      · subst e
        obtain ⟨_, b2, _, _, b5⟩ := find_iff.1 hj
        exact absurd (same_handle (by omega) (by rw [← b5, a5])) hy
      · rw [if_neg e]
  · rw [hc, M.put_len]; exact h.len
  · rw [hc]
    have := put_count m a3 ⟨.nilIface, (m.at i).gen + 1, 0, false⟩
    rw [h.used, find_held_ h1, if_pos rfl] at this
    have e : Cl.held ⟨.nilIface, (m.at i).gen + 1, 0, false⟩ = false := rfl
    rw [e] at this
    simp at this
    exact this
  · exact hwl
  · rw [hc]
    exact put_gens h (by omega) ⟨by show 0 ≤ (m.at i).gen + 1; omega, by show (m.at i).gen + 1 ≤ g + 1; omega⟩
theorem free_none (hv : m.val x = none) : m.free x = (m.gone, 5) := by
  unfold M.free
  rw [val_none.1 hv]
theorem retire_val (h : Shape m n k g) {u : Value} (hv : m.val x = some u) (s : Int) : ∃ m', m.retire x s = (m', 0) ∧ (∀ y, m'.val y = m.val y) ∧ Shape m' n k g := by
  obtain ⟨i, h1, h2⟩ := val_some.1 hv
  obtain ⟨a1, a2, a3, a4, a5⟩ := find_iff.1 h1
  have hlt : i < n := by rw [← h.len]; exact a3
  have hi' : m.tick.find x = some i := by rw [find_cells (show m.tick.cells = m.cells from rfl)]; exact h1
  obtain ⟨b1, b2⟩ := val_put hi' ((m.at i).retire s) rfl a4
  refine ⟨_, by unfold M.retire; rw [h1], fun y => ?_, ?_⟩
  · by_cases e : y = x
    · subst e
      rw [b1, hv]
      exact congrArg some h2
    · exact (b2 y e).trans (val_cells (show m.tick.cells = m.cells from rfl) y)
  · exact shape_put (h.of_cells (m' := m.tick) rfl rfl) hlt _ rfl (h.gen hlt)
theorem alloc_val (h : Shape m n k g) (hk : k < n) (hg : g ≤ 16383) (T : TypeId) (u : Value) : ∃ m' x, m.alloc (.iface T u) = (m', x, 0) ∧ m.val x = none ∧ Turned m m' x (some (.iface T u)) ∧ Shape m' n (k + 1) g := by
  unfold M.alloc M.putv
  cases hr_ : m.tick.room with
  | none =>
    exfalso
    have hn := room_none hr_
    have : m.cells.countP Cl.held = m.cells.length := by
      refine List.countP_eq_length.2 fun c hc => ?_
      obtain ⟨j, hj, rfl⟩ := List.getElem_of_mem hc
      have h1 := hn j hj
      have h2 : m.tick.at j = m.cells[j] := by rw [M.tick_at]; exact at_get m hj
      rw [h2] at h1
      have h3 := h.gens _ hc
      unfold Cl.may at h1
      have h4 : decide (m.cells[j].gen ≤ 16383) = true := decide_eq_true (by omega)
      rw [h4, Bool.and_true] at h1
      unfold Cl.held
      rw [h1]
      rfl
    rw [h.used, h.len] at this
    omega
  | some i =>
    obtain ⟨c1, c2, _⟩ := room_some hr_
    have c1' : i < m.cells.length := c1
    have hlt : i < n := by rw [← h.len]; exact c1'
    have hgi := h.gen hlt
    have hb := h.big
    rw [M.tick_at] at c2
    have hfree : (m.at i).free = true := by
      unfold Cl.may at c2
      exact (Bool.and_eq_true_iff.1 c2).1
    have hx : hOf i (m.tick.at i).gen = (m.at i).gen * 65536 + i + 1 := by
      rw [M.tick_at]
      unfold hOf
      rw [if_pos (by omega)]
    have hc : (m.tick.taken i (.iface T u)).cells = (m.put i { m.at i with v := .iface T u }).cells := rfl
    obtain ⟨z, hz⟩ : ∃ z, (m.at i).gen * 65536 + (i : Int) + 1 = z := ⟨_, rfl⟩
    have z1 : z % 65536 - 1 = i := by omega
    have z2 : z / 65536 = (m.at i).gen := by omega
    have z3 : hr z = true := (hr_iff z).2 ⟨by omega, by omega, by omega⟩
    refine ⟨_, _, rfl, ?_, ⟨?_, fun y hy => ?_⟩, ?_, ?_, ?_, ?_, h.big⟩
    · rw [hx, hz, val_none]
      cases hq : m.find z with
      | none => rfl
      | some j =>
        obtain ⟨_, b2, _, b4, _⟩ := find_iff.1 hq
        obtain rfl : j = i := by omega
        rw [hfree] at b4
        cases b4
    · rw [hx, hz, val_cells hc]
      refine val_some.2 ⟨i, find_iff.2 ⟨z3, z1, by rw [M.put_len]; exact c1', ?_, ?_⟩, ?_⟩
      · rw [M.at_put c1']; rfl
      · rw [M.at_put c1', z2]
      · rw [M.at_put c1']
    · rw [hx, hz] at hy
      rw [val_cells hc]
      refine val_congr (fun j => ?_) (fun j hj => ?_)
      · rw [find_iff, find_iff, M.put_len, at_put_ m c1']
        by_cases e : j = i
        · subst e
          rw [if_pos rfl]
          constructor
          · rintro ⟨_, b2, _, _, b5⟩
            exact absurd (same_handle (x := y) (y := z) (by omega) (by rw [← b5, z2])) hy
          · rintro ⟨_, _, _, b4, _⟩
            rw [hfree] at b4
            cases b4
        · rw [if_neg e]
      · rw [at_put_ m c1']
        by_cases e : j = i
        · subst e
          obtain ⟨_, _, _, b4, _⟩ := find_iff.1 hj
          rw [hfree] at b4
          cases b4
        · rw [if_neg e]
    · rw [hc, M.put_len]; exact h.len
    · rw [hc]
      have := put_count m c1' { m.at i with v := .iface T u }
      have e1 : (m.at i).held = false := by unfold Cl.held; rw [hfree]; rfl
      rw [h.used, e1, held_iface] at this
      simp at this
      exact this
    · show wrap64 (m.live + 1) = _
      rw [h.live]
      unfold wrap64
      omega
    · rw [hc]
      exact put_gens h (Int.le_refl _) hgi
theorem alloc_full (h : Shape m n n g) (T : TypeId) (u : Value) : m.alloc (.iface T u) = (m.tick, 0, 3) := by
  unfold M.alloc M.putv
  cases hr_ : m.tick.room with
  | none => rfl
  | some i =>
    exfalso
    obtain ⟨c1, c2, _⟩ := room_some hr_
    have c1' : i < m.cells.length := c1
    rw [M.tick_at, at_get m c1'] at c2
    have hall := List.countP_eq_length.1 (h.used.trans h.len.symm) _ (List.getElem_mem c1')
    unfold Cl.held at hall
    unfold Cl.may at c2
    have := (Bool.and_eq_true_iff.1 c2).1
    rw [this] at hall
    cases hall
theorem new_shape (n : Nat) (hn : n ≤ 65535) : Shape (M.new n) n 0 0 := by
  refine ⟨by simp [M.new], ?_, rfl, ?_, hn⟩
  · refine List.countP_eq_zero.2 fun c hc => ?_
    have : c = c0 := List.eq_of_mem_replicate hc
    subst this
    decide
  · intro c hc
    have : c = c0 := List.eq_of_mem_replicate hc
    subst this
    decide
theorem new_val (n : Nat) (x : Int) : (M.new n).val x = none := by
  rw [val_none]
  cases hq : (M.new n).find x with
  | none => rfl
  | some j =>
    obtain ⟨_, _, b3, b4, _⟩ := find_iff.1 hq
    have : (M.new n).at j = c0 := by
      rw [at_get _ b3]
      simp [M.new]
    rw [this] at b4
    cases b4
theorem tick_val (m : M) (x : Int) : m.tick.val x = m.val x := val_cells rfl x
theorem gone_val (m : M) (x : Int) : m.gone.val x = m.val x := val_cells rfl x
theorem Shape.tick (h : Shape m n k g) : Shape m.tick n k g := h.of_cells rfl rfl
theorem Shape.gone (h : Shape m n k g) : Shape m.gone n k g := h.of_cells rfl rfl
theorem val_pos {u : Value} (hv : m.val x = some u) : 0 < x ∧ x < 1073741824 := by
  obtain ⟨i, h1, _⟩ := val_some.1 hv
  have := (hr_iff x).1 (find_iff.1 h1).1
  omega
end
end Go.Proofs.Ytahnmklofgnagaa.Mem
