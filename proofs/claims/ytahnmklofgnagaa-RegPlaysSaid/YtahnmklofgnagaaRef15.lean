/- The document's register (chapter 15): as lists; rows in memory of their own. -/
import Derived.Test.YtahnmklofgnagaaRegView
import Derived.Test.YtahnmklofgnagaaAwake15
namespace Go.Proofs.Ytahnmklofgnagaa.Mem
open Go.RowKit Go.Proofs.YtahnmklofgnagaaW.PrintWords Go.Proofs.YtahnmklofgnagaaW.PrintLast Go.Proofs.Ytahnmklofgnagaa.Tags
set_option linter.unusedVariables false
set_option linter.unusedSimpArgs false
/-- A register, as the document has it: the version that is done, what each client needs, places (generation, version). -/
structure Rg where
  V : Int
  S : List Int
  P : List (Int × Int)
def rowS (P : List (Int × Int)) : List Value := P.flatMap fun p => [.int .i64 p.1, .int .i64 p.2]
theorem rowS_len (P : List (Int × Int)) : (rowS P).length = P.length * 2 := by
  induction P with
  | nil => rfl
  | cons p P ih => simp only [rowS, List.flatMap_cons, List.length_append, List.length_cons, List.length_nil] at ih ⊢; omega
theorem rowS_get : ∀ (P : List (Int × Int)) (j : Nat), j < P.length → (rowS P)[j * 2]? = some (.int .i64 (P.getD j (0, 0)).1) ∧ (rowS P)[j * 2 + 1]? = some (.int .i64 (P.getD j (0, 0)).2)
  | [], j, h => by simp at h
  | p :: P, 0, _ => ⟨rfl, rfl⟩
  | p :: P, j + 1, h => by
    have ih := rowS_get P j (by simpa using h)
    have e0 : (j + 1) * 2 = j * 2 + 2 := by omega
    have s : ∀ i, (rowS (p :: P))[i + 2]? = (rowS P)[i]? := fun i => rfl
    refine ⟨?_, ?_⟩
    · rw [e0, s]; exact ih.1
    · rw [show (j + 1) * 2 + 1 = (j * 2 + 1) + 2 by omega, s]; exact ih.2
theorem rowS_set : ∀ (P : List (Int × Int)) (j : Nat) (p : Int × Int), j < P.length → rowS (P.set j p) = ((rowS P).set (j * 2) (.int .i64 p.1)).set (j * 2 + 1) (.int .i64 p.2)
  | [], j, _, h => by simp at h
  | q :: P, 0, p, _ => rfl
  | q :: P, j + 1, p, h => by
    have ih := rowS_set P j p (by simpa using h)
    have e0 : (j + 1) * 2 = j * 2 + 1 + 1 := by omega
    have e1 : (j + 1) * 2 + 1 = j * 2 + 1 + 1 + 1 := by omega
    show _ :: _ :: rowS (P.set j p) = _
    rw [ih, e1, e0]
    rfl
theorem rowS_one {P : List (Int × Int)} : ∀ u ∈ rowS P, u.oneCell' = true := by
  intro u hu
  simp only [rowS, List.mem_flatMap, List.mem_cons, List.not_mem_nil, or_false] at hu
  obtain ⟨p, _, rfl | rfl⟩ := hu <;> rfl
/-- A row of places in memory of its own. -/
def OwnS (w : World) (base : Nat) (v : Value) (P : List (Int × Int)) : Prop := w.ownsRow base 143 2 v P.length (rowS P)
section
variable {w w' w1 w0 : World} {mb cb base : Nat} {m : M} {v : Value} {P : List (Int × Int)}
theorem OwnS.nil (w : World) (base : Nat) : OwnS w base (.slice none 0 0) [] := World.ownsRow_nil _ _ _ _
theorem OwnS.ne (h : OwnS w base v P) {g : Nat} {t : TypeId} {cs : Array Value} (hg : w.heap[g]? = some (.cells cs t (0, 0))) (ht : t ≠ 143) : some g ≠ v.ownBlock := by
  intro e
  obtain ⟨cells, hc⟩ := own_typed h g e.symm
  rw [hg] at hc
  injection hc with hc
  injection hc with _ hc
  exact ht hc
theorem OwnS.move (h : OwnS w base v P) (hm : ∀ k, v.ownBlock = some k → w'.heap[k]? = w.heap[k]?) : OwnS w' base v P := own_move h hm
theorem OwnS.fr (h : OwnS w base v P) (hA : At w mb cb m) (hF : Fr w w' mb cb) : OwnS w' base v P := by
  refine h.move fun k hk => ?_
  obtain ⟨cells, hc⟩ := own_typed h k hk
  refine hF.block k (blk_lt hc) ?_ ?_
  · rintro rfl
    exact h.ne hA.hm (by decide) hk.symm
  · rintro rfl
    exact h.ne hA.hc (by decide) hk.symm
theorem OwnS.below (h : OwnS w base v P) (hb : Below w.heap.size w w') : OwnS w' base v P := by
  refine h.move fun k hk => ?_
  obtain ⟨cells, hc⟩ := own_typed h k hk
  exact hb.block k (blk_lt hc)
theorem OwnS.slice (h : OwnS w base v P) : ∃ A c, v = .slice A P.length c := by
  rcases h.2 with ⟨rfl, h0⟩ | ⟨g, cap, cur, rfl, hg, _⟩
  · rw [h0]
    exact ⟨none, 0, rfl⟩
  · exact ⟨_, _, rfl⟩
theorem OwnS.cell {A : Option Addr} {c : Nat} (h : OwnS w base (.slice A P.length c) P) (j : Nat) (hj : j < P.length) : ∃ g, A = some ⟨g, 0, none⟩ ∧ w.cell? ⟨g, j * 2, none⟩ = some (.int .i64 (P.getD j (0, 0)).1) ∧ w.cell? ⟨g, j * 2 + 1, none⟩ = some (.int .i64 (P.getD j (0, 0)).2) := by
  rcases h.2 with ⟨_, h0⟩ | ⟨g, cap, cur, e, hg, _⟩
  · omega
  · injection e with e1 _ e3
    subst e1 e3
    obtain ⟨a0, a1⟩ := rowS_get P j hj
    exact ⟨g, rfl, (World.ownsRow.cellAt h _ (by omega)).trans a0, (World.ownsRow.cellAt h _ (by omega)).trans a1⟩
/-- A register, in memory. -/
def RgV (w : World) (x : Value) (r : Rg) : Prop := r.S.length ≤ 64 ∧ r.P.length ≤ 64 ∧ ∃ vs vp, x = .agg #[.int .i64 r.V, vs, vp] ∧ OwnI w 0 vs r.S ∧ OwnS w 0 vp r.P
theorem RgV.below {x : Value} {r : Rg} (h : RgV w x r) (hb : Below w.heap.size w w') : RgV w' x r := by
  obtain ⟨h1, h2, vs, vp, e, h3, h4⟩ := h
  exact ⟨h1, h2, vs, vp, e, h3.below hb, h4.below hb⟩
theorem RgV.fr {x : Value} {r : Rg} (h : RgV w x r) (hA : At w mb cb m) (hF : Fr w w' mb cb) : RgV w' x r := by
  obtain ⟨h1, h2, vs, vp, e, h3, h4⟩ := h
  exact ⟨h1, h2, vs, vp, e, h3.fr hA hF, h4.fr hA hF⟩
theorem OwnS.only (h : OwnS w base v P) {b : Nat} {t : TypeId} {cs : Array Value} (k : Only w w' b) (hg : w.heap[b]? = some (.cells cs t (0, 0))) (ht : t ≠ 143) : OwnS w' base v P := h.move fun i hi => k.block i (by rintro rfl; exact h.ne hg ht hi.symm)
theorem RgV.only {x : Value} {r : Rg} (h : RgV w x r) {b : Nat} {t : TypeId} {cs : Array Value} (k : Only w w' b) (hg : w.heap[b]? = some (.cells cs t (0, 0))) (h1 : t ≠ 143) (h2 : t ≠ 3) : RgV w' x r := by
  obtain ⟨a1, a2, vs, vp, e, h3, h4⟩ := h
  exact ⟨a1, a2, vs, vp, e, h3.only1 k hg h2, h4.only k hg h1⟩
theorem RgV.keep {x : Value} {r : Rg} (h : RgV w x r) (hk : ∀ (k : Nat) (cs : Array Value) (t : TypeId), w.heap[k]? = some (Obj.cells cs t (0, 0)) → (t = 143 ∨ t = 3) → w'.heap[k]? = w.heap[k]?) : RgV w' x r := by
  obtain ⟨a1, a2, vs, vp, e, h3, h4⟩ := h
  refine ⟨a1, a2, vs, vp, e, h3.move fun k hq => ?_, h4.move fun k hq => ?_⟩
  · obtain ⟨cells, hc⟩ := own_typed h3 k hq
    exact hk _ _ _ hc (Or.inr rfl)
  · obtain ⟨cells, hc⟩ := own_typed h4 k hq
    exact hk _ _ _ hc (Or.inl rfl)
end
theorem snap_info : (Try.prog.info? 143).map (fun i => (i.zero, i.size, i.bytes)) = some (some (.agg #[.int .i64 0, .int .i64 0]), 2, 16) := by kernel_rfl
section
variable {ops : Array Oper} {rest : List Oper} {o : Oper} {a : Go.Act} {Q : Exit → Go.Act → World → Prop}
/-- 'append([]T{}, xs...)', xs not empty. -/
theorem copy_own {w0 W : World} (hgd : o.guard = none) (s x : Operand) (T e : TypeId) (z : Value) (size bytes : Nat) (ho : o.op = .call { callee := .builtin .append, args := #[s, x], argTypes := #[T, T] }) (hT : Try.prog.underlying T = some (.slice e)) (hi : (Try.prog.info? e).map (fun i => (i.zero, i.size, i.bytes)) = some (some z, size, bytes)) (hz : z.cells.size = size) (hs0 : 0 < size) (hb0 : bytes ≤ 1000)
    (base d : Nat) (hd : W.heap[d]? = some (.cells #[] e (0, 0))) (hbd : base ≤ d) {n g0 cap : Nat} {xs : List Value} {b0 : Nat} (hO : W.ownsRow b0 e size (.slice (some ⟨g0, 0, none⟩) n cap) n xs) (h1 : ∀ u ∈ xs, u.oneCell' = true) (hn : 0 < n) (hl : n ≤ 1000) (hB : Below base w0 W) (hbase : base ≤ W.heap.size)
    (hs : a.eval s = .slice (some ⟨d, 0, none⟩) 0 0) (hx : a.eval x = .slice (some ⟨g0, 0, none⟩) n cap)
    (h : ∀ g cp w1, w1.ownsRow base e size (.slice (some ⟨g, 0, none⟩) n cp) n xs → base ≤ g → Below base w0 w1 → W.grownBy w1 (some d) → wpList Try.prog ops Q rest (a.put o.dst (.slice (some ⟨g, 0, none⟩) n cp)) w1) :
    wpList Try.prog ops Q (o :: rest) a W := by
  obtain ⟨i0, hi0, hz0, hz1, hz2⟩ := info_parts hi
  have hown : W.ownsRow base e size (.slice (some ⟨d, 0, none⟩) 0 0) 0 [] := ⟨by simp, Or.inr ⟨d, 0, #[], rfl, hbd, hd, Nat.le_refl _, by unfold maxLen; omega, by simp, by simp⟩⟩
  refine wpList_append_own _ hgd s x T ho base e i0 _ size bytes hT hi0 hz0 hz1 hz2 hz hs0 _ 0 [] hs hown ⟨g0, 0, none⟩ n cap xs hx hO.1 (fun j u hj => ?_) h1 (by unfold maxLen; omega) (by rw [Nat.zero_add]; exact Nat.le_trans (Nat.mul_le_mul hl hb0) (by omega)) hbase ?_
  · have hj' := (List.getElem?_eq_some_iff.1 hj).1
    have e0 : Addr.add ⟨g0, 0, none⟩ j = ⟨g0, j, none⟩ := by unfold Addr.add; split <;> simp_all
    rw [e0, World.ownsRow.cellAt hO j (by have := hO.1; omega)]
    exact hj
  · intro v' w1 hown' hgrow _
    rw [Nat.zero_add, List.nil_append] at hown'
    have h2 := hown'.2
    rcases h2 with ⟨_, hn0⟩ | ⟨g, cp, cur, rfl, hg, r⟩
    · omega
    · exact h g cp w1 hown' hg (hB.grown hgrow hbase (fun k hk => by simp [Value.ownBlock] at hk; omega)) hgrow
end
end Go.Proofs.Ytahnmklofgnagaa.Mem
