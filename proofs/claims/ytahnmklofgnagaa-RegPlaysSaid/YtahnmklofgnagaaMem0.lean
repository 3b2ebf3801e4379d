/- Memory of cells as a list: what its two blocks hold, and what a store makes of it. Plain lemmas on worlds. -/
import Derived.Test.YtahnmklofgnagaaWWords
import Derived.WalkKit
import Derived.Below
namespace Go.Proofs.Ytahnmklofgnagaa.Mem
open Go.RowKit Go.Proofs.YtahnmklofgnagaaW.PrintWords
set_option linter.unusedVariables false
set_option linter.unusedSimpArgs false

/-- A cell, as memory holds it. -/
structure Cl where
  v : Value
  gen : Int
  stamp : Int
  ret : Bool
/-- Memory. -/
structure M where
  cells : List Cl
  count : Int
  live : Int
  stale : Int
def c0 : Cl := ⟨.nilIface, 0, 0, false⟩
def M.at (m : M) (i : Nat) : Cl := m.cells.getD i c0
def M.put (m : M) (i : Nat) (c : Cl) : M := { m with cells := m.cells.set i c }
def row : List Cl → List Value
  | [] => []
  | c :: l => c.v :: .int .i64 c.gen :: .int .i64 c.stamp :: .bool c.ret :: row l
theorem row_at : ∀ (l : List Cl) (i : Nat), i < l.length → (row l)[i * 4]? = some (l.getD i c0).v ∧ (row l)[i * 4 + 1]? = some (.int .i64 (l.getD i c0).gen) ∧ (row l)[i * 4 + 2]? = some (.int .i64 (l.getD i c0).stamp) ∧ (row l)[i * 4 + 3]? = some (.bool (l.getD i c0).ret)
  | [], i, h => by simp at h
  | c :: l, 0, _ => ⟨rfl, rfl, rfl, rfl⟩
  | c :: l, i + 1, h => by
    have ih := row_at l i (by simpa using h)
    have e : ∀ j, (i + 1) * 4 + j = (i * 4 + j) + 4 := fun j => by omega
    have e0 : (i + 1) * 4 = (i * 4) + 4 := by omega
    have s : ∀ j, (row (c :: l))[j + 4]? = (row l)[j]? := fun j => rfl
    refine ⟨?_, ?_, ?_, ?_⟩
    · rw [e0, s]; exact ih.1
    · rw [e, s]; exact ih.2.1
    · rw [e, s]; exact ih.2.2.1
    · rw [e, s]; exact ih.2.2.2
theorem row_set : ∀ (l : List Cl) (i : Nat), i < l.length → ∀ u : Value, ∀ n : Int, ∀ b : Bool,
    (row l).set (i * 4) u = row (l.set i { l.getD i c0 with v := u }) ∧ (row l).set (i * 4 + 1) (.int .i64 n) = row (l.set i { l.getD i c0 with gen := n }) ∧
    (row l).set (i * 4 + 2) (.int .i64 n) = row (l.set i { l.getD i c0 with stamp := n }) ∧ (row l).set (i * 4 + 3) (.bool b) = row (l.set i { l.getD i c0 with ret := b })
  | [], i, h => by simp at h
  | c :: l, 0, _ => fun u n b => ⟨rfl, rfl, rfl, rfl⟩
  | c :: l, i + 1, h => fun u n b => by
    have ih := row_set l i (by simpa using h) u n b
    have e : ∀ j, (i + 1) * 4 + j = (i * 4 + j) + 4 := fun j => by omega
    have e0 : (i + 1) * 4 = (i * 4) + 4 := by omega
    have s : ∀ j x, (row (c :: l)).set (j + 4) x = c.v :: .int .i64 c.gen :: .int .i64 c.stamp :: .bool c.ret :: (row l).set j x := fun j x => rfl
    refine ⟨?_, ?_, ?_, ?_⟩
    · rw [e0, s, ih.1]; rfl
    · rw [e, s, ih.2.1]; rfl
    · rw [e, s, ih.2.2.1]; rfl
    · rw [e, s, ih.2.2.2]; rfl
/-- A word, or a block of another type, or nothing. -/
def OkV (v : Value) : Prop := v = .nilIface ∨ (∃ n, v = .iface 166 (.int .i64 n)) ∨ ∃ T x, v = .iface T x ∧ T ≠ 166
structure At (w : World) (mb cb : Nat) (m : M) : Prop where
  hm : w.heap[mb]? = some (.cells #[.slice (some ⟨cb, 0, none⟩) m.cells.length m.cells.length, .int .i64 m.count, .int .i64 m.live, .int .i64 m.stale] 132 (0, 0))
  hc : w.heap[cb]? = some (.cells (row m.cells).toArray 165 (0, 0))
  len : m.cells.length ≤ 65535
  ok : ∀ c ∈ m.cells, OkV c.v
section
variable {w w' : World} {mb cb : Nat} {m : M}
theorem At.ne (h : At w mb cb m) : mb ≠ cb := blk_ne h.hm h.hc (by decide)
theorem At.cells_ (h : At w mb cb m) : w.cell? ⟨mb, 0, none⟩ = some (.slice (some ⟨cb, 0, none⟩) m.cells.length m.cells.length) := (blk_cell h.hm 0).trans rfl
theorem At.count_ (h : At w mb cb m) : w.cell? ⟨mb, 1, none⟩ = some (.int .i64 m.count) := (blk_cell h.hm 1).trans rfl
theorem At.live_ (h : At w mb cb m) : w.cell? ⟨mb, 2, none⟩ = some (.int .i64 m.live) := (blk_cell h.hm 2).trans rfl
theorem At.stale_ (h : At w mb cb m) : w.cell? ⟨mb, 3, none⟩ = some (.int .i64 m.stale) := (blk_cell h.hm 3).trans rfl
theorem At.fz (h : At w mb cb m) (i : Nat) : w.frozen? ⟨mb, i, none⟩ = false := blk_frozen h.hm i
theorem At.fzc (h : At w mb cb m) (i : Nat) : w.frozen? ⟨cb, i, none⟩ = false := blk_frozen h.hc i
theorem At.v_ (h : At w mb cb m) {i : Nat} (hi : i < m.cells.length) : w.cell? ⟨cb, i * 4, none⟩ = some (m.at i).v := by rw [blk_cell h.hc, List.getElem?_toArray]; exact (row_at m.cells i hi).1
theorem At.gen_ (h : At w mb cb m) {i : Nat} (hi : i < m.cells.length) : w.cell? ⟨cb, i * 4 + 1, none⟩ = some (.int .i64 (m.at i).gen) := by rw [blk_cell h.hc, List.getElem?_toArray]; exact (row_at m.cells i hi).2.1
theorem At.stamp_ (h : At w mb cb m) {i : Nat} (hi : i < m.cells.length) : w.cell? ⟨cb, i * 4 + 2, none⟩ = some (.int .i64 (m.at i).stamp) := by rw [blk_cell h.hc, List.getElem?_toArray]; exact (row_at m.cells i hi).2.2.1
theorem At.ret_ (h : At w mb cb m) {i : Nat} (hi : i < m.cells.length) : w.cell? ⟨cb, i * 4 + 3, none⟩ = some (.bool (m.at i).ret) := by rw [blk_cell h.hc, List.getElem?_toArray]; exact (row_at m.cells i hi).2.2.2
theorem At.okv (h : At w mb cb m) (i : Nat) : OkV (m.at i).v := by
  unfold M.at
  rw [List.getD_eq_getElem?_getD]
  by_cases hi : i < m.cells.length
  · rw [List.getElem?_eq_getElem hi]; exact h.ok _ (List.getElem_mem hi)
  · rw [List.getElem?_eq_none (by omega)]; exact Or.inl rfl
theorem At.of_blocks (h : At w mb cb m) (h1 : w'.heap[mb]? = w.heap[mb]?) (h2 : w'.heap[cb]? = w.heap[cb]?) : At w' mb cb m := ⟨h1.trans h.hm, h2.trans h.hc, h.len, h.ok⟩
theorem At.drew (h : At w mb cb m) : At w.drew mb cb m := h.of_blocks rfl rfl
theorem At.drewN (h : At w mb cb m) (n : Nat) : At (w.drewN n) mb cb m := h.of_blocks rfl rfl
theorem At.drawn (h : At w mb cb m) (hd : Drawn0 w w') : At w' mb cb m := by
  obtain ⟨n, rfl⟩ := hd
  exact h.drewN n
theorem At.cast {m' : M} (h : At w mb cb m) (e : m = m') : At w mb cb m' := e ▸ h
theorem At.below (h : At w mb cb m) (hb : Below w.heap.size w w') : At w' mb cb m := h.of_blocks (hb.block _ (blk_lt h.hm)) (hb.block _ (blk_lt h.hc))
theorem At.alloc (h : At w mb cb m) (o : Obj) : At (w.alloc o) mb cb m := h.below (below_alloc (Below.refl _ _) o)
theorem At.set_count (h : At w mb cb m) (x : Int) : At (w.setCell ⟨mb, 1, none⟩ (.int .i64 x)) mb cb { m with count := x } :=
  ⟨blk_put h.hm 1 _ rfl, blk_far h.hc (Ne.symm h.ne) _, h.len, h.ok⟩
theorem At.set_live (h : At w mb cb m) (x : Int) : At (w.setCell ⟨mb, 2, none⟩ (.int .i64 x)) mb cb { m with live := x } :=
  ⟨blk_put h.hm 2 _ rfl, blk_far h.hc (Ne.symm h.ne) _, h.len, h.ok⟩
theorem At.set_stale (h : At w mb cb m) (x : Int) : At (w.setCell ⟨mb, 3, none⟩ (.int .i64 x)) mb cb { m with stale := x } :=
  ⟨blk_put h.hm 3 _ rfl, blk_far h.hc (Ne.symm h.ne) _, h.len, h.ok⟩
theorem At.set_cell (h : At w mb cb m) {i : Nat} (hi : i < m.cells.length) {w' : World} (c : Cl) (hok : OkV c.v) (h1 : w'.heap[mb]? = w.heap[mb]?) (h2 : w'.heap[cb]? = some (.cells (row (m.cells.set i c)).toArray 165 (0, 0))) : At w' mb cb (m.put i c) := by
  refine ⟨?_, h2, by simpa [M.put] using h.len, fun x hx => ?_⟩
  · rw [h1, h.hm]
    simp [M.put]
  · rcases List.mem_or_eq_of_mem_set hx with hx | rfl
    · exact h.ok x hx
    · exact hok
theorem At.set_v (h : At w mb cb m) {i : Nat} (hi : i < m.cells.length) (u : Value) (hok : OkV u) : At (w.setCell ⟨cb, i * 4, none⟩ u) mb cb (m.put i { m.at i with v := u }) :=
  h.set_cell hi _ hok (Below.heap_setCell _ _ _ _ h.ne) (blk_put h.hc _ _ (by rw [List.setIfInBounds_toArray, (row_set m.cells i hi u 0 false).1]; rfl))
theorem At.set_stamp (h : At w mb cb m) {i : Nat} (hi : i < m.cells.length) (n : Int) : At (w.setCell ⟨cb, i * 4 + 2, none⟩ (.int .i64 n)) mb cb (m.put i { m.at i with stamp := n }) :=
  h.set_cell hi _ (h.okv i) (Below.heap_setCell _ _ _ _ h.ne) (blk_put h.hc _ _ (by rw [List.setIfInBounds_toArray, (row_set m.cells i hi .nilIface n false).2.2.1]; rfl))
theorem At.set_gen (h : At w mb cb m) {i : Nat} (hi : i < m.cells.length) (n : Int) : At (w.setCell ⟨cb, i * 4 + 1, none⟩ (.int .i64 n)) mb cb (m.put i { m.at i with gen := n }) :=
  h.set_cell hi _ (h.okv i) (Below.heap_setCell _ _ _ _ h.ne) (blk_put h.hc _ _ (by rw [List.setIfInBounds_toArray, (row_set m.cells i hi .nilIface n false).2.1]; rfl))
theorem At.set_ret (h : At w mb cb m) {i : Nat} (hi : i < m.cells.length) (b : Bool) : At (w.setCell ⟨cb, i * 4 + 3, none⟩ (.bool b)) mb cb (m.put i { m.at i with ret := b }) :=
  h.set_cell hi _ (h.okv i) (Below.heap_setCell _ _ _ _ h.ne) (blk_put h.hc _ _ (by rw [List.setIfInBounds_toArray, (row_set m.cells i hi .nilIface 0 b).2.2.2]; rfl))
theorem M.at_put {m : M} {i : Nat} (hi : i < m.cells.length) (c : Cl) : (m.put i c).at i = c := by
  unfold M.at M.put
  rw [List.getD_eq_getElem?_getD, List.getElem?_set_self hi]
  rfl
theorem M.put_put (m : M) (i : Nat) (c d : Cl) : (m.put i c).put i d = m.put i d := by
  unfold M.put
  rw [List.set_set]
theorem M.put_len (m : M) (i : Nat) (c : Cl) : (m.put i c).cells.length = m.cells.length := by simp [M.put]
/-- What a call does beside memory's two blocks: nothing that was there has turned. -/
structure Fr (w w' : World) (mb cb : Nat) : Prop where
  os : w'.os = w.os
  tape : w'.tape = w.tape
  output : w'.output = w.output
  size : w.heap.size ≤ w'.heap.size
  block : ∀ k, k < w.heap.size → k ≠ mb → k ≠ cb → w'.heap[k]? = w.heap[k]?
theorem Fr.refl (w : World) (mb cb : Nat) : Fr w w mb cb := ⟨rfl, rfl, rfl, Nat.le_refl _, fun _ _ _ _ => rfl⟩
theorem Fr.trans {a b c : World} (h : Fr a b mb cb) (k : Fr b c mb cb) : Fr a c mb cb :=
  ⟨k.os.trans h.os, k.tape.trans h.tape, k.output.trans h.output, Nat.le_trans h.size k.size, fun i hi h1 h2 => (k.block i (Nat.lt_of_lt_of_le hi h.size) h1 h2).trans (h.block i hi h1 h2)⟩
theorem Fr.of_below (hb : Below w.heap.size w w') (mb cb : Nat) : Fr w w' mb cb := ⟨hb.os, hb.tape, hb.output, hb.size, fun k hk _ _ => hb.block k hk⟩
theorem Fr.below {a : World} (h : Fr a w mb cb) (hb : Below w.heap.size w w') : Fr a w' mb cb := h.trans (Fr.of_below hb mb cb)
theorem Fr.drew {a : World} (h : Fr a w mb cb) : Fr a w.drew mb cb := ⟨h.os, h.tape, h.output, h.size, h.block⟩
theorem Fr.drewN {a : World} (h : Fr a w mb cb) (n : Nat) : Fr a (w.drewN n) mb cb := h.below (pw_below_drewN (Below.refl _ _) n)
theorem Fr.drawn {a : World} (h : Fr a w mb cb) (hd : Drawn0 w w') : Fr a w' mb cb := by
  obtain ⟨n, rfl⟩ := hd
  exact h.drewN n
theorem Fr.alloc {a : World} (h : Fr a w mb cb) (o : Obj) : Fr a (w.alloc o) mb cb := h.below (below_alloc (Below.refl _ _) o)
theorem Fr.set {a : World} (h : Fr a w mb cb) (p : Addr) (hp : p.block = mb ∨ p.block = cb) (u : Value) : Fr a (w.setCell p u) mb cb :=
  ⟨h.os, h.tape, h.output, by simpa [World.setCell] using h.size, fun k hk h1 h2 => (Below.heap_setCell w p u k (by rcases hp with e | e <;> omega)).trans (h.block k hk h1 h2)⟩
theorem Fr.at_ {a : World} (h : Fr a w mb cb) {g : Nat} {o : Obj} (hg : a.heap[g]? = some o) (h1 : g ≠ mb) (h2 : g ≠ cb) : w.heap[g]? = some o := (h.block g (blk_lt hg) h1 h2).trans hg
end
end Go.Proofs.Ytahnmklofgnagaa.Mem
