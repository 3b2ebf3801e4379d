/- Lists of whole numbers in memory of their own. -/
import Derived.Test.YtahnmklofgnagaaMem4
import Derived.Laws.OwnMore
import Derived.Test.YtahnmklofgnagaaWLast
import Derived.Test.YtahnmklofgnagaaWMore
namespace Go.Proofs.Ytahnmklofgnagaa.Mem
open Go.RowKit Go.Proofs.YtahnmklofgnagaaW.PrintWords Go.Proofs.Ytahnmklofgnagaa.Tags
set_option linter.unusedVariables false
set_option linter.unusedSimpArgs false
section
/-- A list of whole numbers that lies in memory of its own. -/
def OwnI (w : World) (base : Nat) (v : Value) (xs : List Int) : Prop := w.ownsRow base 3 1 v xs.length (xs.map (Value.int .i64))
section
variable {w w' w1 : World} {mb cb base : Nat} {m : M} {v : Value} {xs : List Int}
theorem OwnI.nil (w : World) (base : Nat) : OwnI w base (.slice none 0 0) [] := World.ownsRow_nil _ _ _ _
theorem OwnI.ne (h : OwnI w base v xs) {g : Nat} {t : TypeId} {cs : Array Value} (hg : w.heap[g]? = some (.cells cs t (0, 0))) (ht : t ≠ 3) : some g ≠ v.ownBlock := by
  intro e
  obtain ⟨cells, hc⟩ := own_typed h g e.symm
  rw [hg] at hc
  injection hc with hc
  injection hc with _ hc
  exact ht hc
theorem OwnI.move (h : OwnI w base v xs) (hm : ∀ k, v.ownBlock = some k → w'.heap[k]? = w.heap[k]?) : OwnI w' base v xs := own_move h hm
theorem OwnI.fr (h : OwnI w base v xs) (hA : At w mb cb m) (hF : Fr w w' mb cb) : OwnI w' base v xs := by
  refine h.move fun k hk => ?_
  obtain ⟨cells, hc⟩ := own_typed h k hk
  refine hF.block k (blk_lt hc) ?_ ?_
  · rintro rfl
    exact h.ne hA.hm (by decide) hk.symm
  · rintro rfl
    exact h.ne hA.hc (by decide) hk.symm
theorem At.grown (hA : At w mb cb m) (h : OwnI w base v xs) (hg : w.grownBy w1 v.ownBlock) : At w1 mb cb m :=
  hA.of_blocks ((blk_grown hA.hm hg (h.ne hA.hm (by decide))).trans hA.hm.symm) ((blk_grown hA.hc hg (h.ne hA.hc (by decide))).trans hA.hc.symm)
theorem OwnI.alloc (h : OwnI w base v xs) (o : Obj) : OwnI (w.alloc o) base v xs := World.ownsRow.alloc h o
theorem OwnI.below (h : OwnI w base v xs) (hb : Below w.heap.size w w') : OwnI w' base v xs := by
  refine h.move fun k hk => ?_
  obtain ⟨cells, hc⟩ := own_typed h k hk
  exact hb.block k (blk_lt hc)
theorem OwnI.base_ (h : OwnI w base v xs) {B : Nat} (hB : B ≤ base) : ∀ k, v.ownBlock = some k → B ≤ k := by
  intro k hk
  rcases h.2 with ⟨rfl, _⟩ | ⟨g, cap, cur, rfl, hg, _⟩
  · cases hk
  · have : g = k := by simpa [Value.ownBlock] using hk
    omega
theorem OwnI.slice (h : OwnI w base v xs) : ∃ A c, v = .slice A xs.length c := by
  rcases h.2 with ⟨rfl, h0⟩ | ⟨g, cap, cur, rfl, hg, _⟩
  · rw [h0]
    exact ⟨none, 0, rfl⟩
  · exact ⟨_, _, rfl⟩
theorem OwnI.cell {A : Option Addr} {c : Nat} (h : OwnI w base (.slice A xs.length c) xs) (j : Nat) (hj : j < xs.length) : ∃ g, A = some ⟨g, 0, none⟩ ∧ w.cell? ⟨g, j, none⟩ = some (.int .i64 (xs.getD j 0)) := by
  rcases h.2 with ⟨_, h0⟩ | ⟨g, cap, cur, e, hg, _⟩
  · omega
  · injection e with e1 _ e3
    subst e1 e3
    refine ⟨g, rfl, ?_⟩
    rw [World.ownsRow.cellAt h j (by omega)]
    simp [List.getD_eq_getElem?_getD, List.getElem?_eq_getElem hj]
theorem OwnI.add {w1 : World} {v' : Value} {x : Int} (h : w1.ownsRow base 3 1 v' (xs.length + 1) (xs.map (Value.int .i64) ++ [.int .i64 x])) : OwnI w1 base v' (xs ++ [x]) := by
  unfold OwnI
  rw [List.length_append, List.map_append]
  exact h
end
theorem int_info : (Try.prog.info? 3).map (fun i => (i.zero, i.size, i.bytes)) = some (some (.int .i64 0), 1, 8) := by kernel_rfl
section
variable {ops : Array Oper} {rest : List Oper} {o : Oper} {a : Go.Act} {Q : Exit → Go.Act → World → Prop}
/-- 'append(xs, y)' on a list of whole numbers of one's own. -/
theorem append_I {w0 W : World} (hgd : o.guard = none) (s x : Operand) (ho : o.op = .call { callee := .builtin .append, args := #[s, x], argTypes := #[25, 25] }) (base : Nat) (v : Value) (xs : List Int) (y : Int) (hO : OwnI W base v xs)
    (hs : a.eval s = v) (hx : a.eval x = .slice (some ⟨W.heap.size, 0, none⟩) 1 1) (hB : Below base w0 W) (hbase : base ≤ W.heap.size) (hl : xs.length ≤ 1000000)
    (h : ∀ v1 w1, OwnI w1 base v1 (xs ++ [y]) → Below base w0 w1 → W.grownBy w1 v.ownBlock → (v1.ownBlock = v.ownBlock ∨ ∃ b, v1.ownBlock = some b ∧ W.heap.size ≤ b) → wpList Try.prog ops Q rest (a.put o.dst v1) w1) :
    wpList Try.prog ops Q (o :: rest) a (W.alloc (.cells #[.int .i64 y] 3)) := by
  refine print_append_cells base hgd s x 25 3 (.int .i64 0) 1 8 ho Try.underlying25 int_info rfl (by decide) (by decide) v xs.length (xs.map (Value.int .i64)) [.int .i64 y] hs hx rfl (by intro u hu; simp at hu; subst hu; rfl) hO hB hbase (by omega) ?_
  intro v1 w1 hown hb1 hg1 hat1
  exact h v1 w1 (OwnI.add hown) hb1 hg1 hat1
/-- Two lists that are not in one block. -/
def Apart (u v : Value) : Prop := ∀ k, u.ownBlock = some k → some k ≠ v.ownBlock
theorem Apart.nil (v : Value) : Apart (.slice none 0 0) v := fun k hk => by cases hk
theorem Apart.symm {u v : Value} (h : Apart u v) : Apart v u := fun k hk he => h k he.symm hk.symm
theorem OwnI.lt {w : World} {base : Nat} {v : Value} {xs : List Int} (h : OwnI w base v xs) {k : Nat} (hk : v.ownBlock = some k) : k < w.heap.size := by
  obtain ⟨cells, hc⟩ := own_typed h k hk
  exact blk_lt hc
theorem OwnI.grown {w w1 : World} {base : Nat} {u v v1 : Value} {xs : List Int} (h : OwnI w base u xs) (ha : Apart u v) (hg : w.grownBy w1 v.ownBlock) (hat : v1.ownBlock = v.ownBlock ∨ ∃ b, v1.ownBlock = some b ∧ w.heap.size ≤ b) : OwnI w1 base u xs ∧ Apart u v1 := by
  refine ⟨h.move fun k hk => hg.block k (h.lt hk) (ha k hk), fun k hk he => ?_⟩
  rcases hat with e | ⟨b, e, hb⟩
  · rw [e] at he
    exact ha k hk he
  · rw [e] at he
    injection he with he
    have := h.lt hk
    omega
end
end
end Go.Proofs.Ytahnmklofgnagaa.Mem
