/- Machines that each add 1 to one word: a row of pointers, one machine more. -/
import Derived.Test.YthgbgflpjggpmaaStep8
namespace Go.Proofs.Ythgbgflpjggpmaa.Mem
open Go.RowKit Go.Proofs.YthgbgflpjggpmaaW.PrintWords Go.Proofs.YthgbgflpjggpmaaW.PrintLast Go.Proofs.Ythgbgflpjggpmaa.Tags
set_option linter.unusedVariables false
set_option linter.unusedSimpArgs false
section
variable {w w' w1 : World} {mb cb hb base N T : Nat} {c n : Int} {f : Nat → Rec} {v : Value} {xs : List Nat}
/-- A row of pointers to machines, in memory of its own. -/
def OwnP (w : World) (v : Value) (xs : List Nat) : Prop := w.ownsRow 0 31 1 v xs.length (xs.map ptr)
theorem OwnP.ne (h : OwnP w v xs) {g : Nat} {t : TypeId} {cs : Array Value} (hg : w.heap[g]? = some (.cells cs t (0, 0))) (ht : t ≠ 31) : some g ≠ v.ownBlock := by
  intro e
  obtain ⟨cells, hc⟩ := own_typed h g e.symm
  rw [hg] at hc
  injection hc with hc
  injection hc with _ hc
  exact ht hc
theorem OwnP.move (h : OwnP w v xs) (hm : ∀ k, v.ownBlock = some k → w'.heap[k]? = w.heap[k]?) : OwnP w' v xs := own_move h hm
theorem OwnP.lt (h : OwnP w v xs) {k : Nat} (hk : v.ownBlock = some k) : k < w.heap.size := by
  obtain ⟨cells, hc⟩ := own_typed h k hk
  exact blk_lt hc
theorem OwnP.nil (w : World) : OwnP w (.slice none 0 0) [] := World.ownsRow_nil _ _ _ _
theorem OwnP.below (h : OwnP w v xs) (hb : Below w.heap.size w w') : OwnP w' v xs := h.move fun k hk => hb.block k (h.lt hk)
theorem OwnP.fx {Z : Nat → Prop} (h : OwnP w v xs) (hF : Fx Z w w') (hZ : ∀ k, Z k → Zt w k) : OwnP w' v xs := h.move fun k hk => hF.block k (h.lt hk) fun e => by
  obtain ⟨cs, hc⟩ := own_typed h k hk
  exact (hZ k e).ne hc (by decide) rfl
theorem OwnP.slice (h : OwnP w v xs) : ∃ A c, v = .slice A xs.length c := by
  rcases h.2 with ⟨rfl, h0⟩ | ⟨g, cap, cur, rfl, hg, _⟩
  · rw [h0]
    exact ⟨none, 0, rfl⟩
  · exact ⟨_, _, rfl⟩
theorem OwnP.cell {A : Option Addr} {c : Nat} (h : OwnP w (.slice A xs.length c) xs) (j : Nat) (hj : j < xs.length) : ∃ g, A = some ⟨g, 0, none⟩ ∧ w.cell? ⟨g, j, none⟩ = some (ptr (xs.getD j 0)) := by
  rcases h.2 with ⟨_, h0⟩ | ⟨g, cap, cur, e, hg, _⟩
  · omega
  · injection e with e1 _ e3
    subst e1 e3
    refine ⟨g, rfl, ?_⟩
    rw [World.ownsRow.cellAt h j (by omega)]
    simp [List.getD_eq_getElem?_getD, List.getElem?_eq_getElem hj]
theorem ptr_info : (Try.prog.info? 31).map (fun i => (i.zero, i.size, i.bytes)) = some (some (.pointer none), 1, 8) := by kernel_rfl
theorem append_P {ops : Array Oper} {rest : List Oper} {o : Oper} {a : Go.Act} {Q : Exit → Go.Act → World → Prop} {W : World} (hgd : o.guard = none) (s x : Operand) (ho : o.op = .call { callee := .builtin .append, args := #[s, x], argTypes := #[30, 30] }) (v : Value) (xs : List Nat) (y : Nat) (hO : OwnP W v xs)
    (hs : a.eval s = v) (hx : a.eval x = .slice (some ⟨W.heap.size, 0, none⟩) 1 1) (hl : xs.length ≤ 1000000)
    (h : ∀ A1 c1 w1, OwnP w1 (.slice A1 (xs.length + 1) c1) (xs ++ [y]) → W.grownBy w1 v.ownBlock → ((Value.slice A1 (xs.length + 1) c1).ownBlock = v.ownBlock ∨ ∃ b, (Value.slice A1 (xs.length + 1) c1).ownBlock = some b ∧ W.heap.size ≤ b) → wpList Try.prog ops Q rest (a.put o.dst (.slice A1 (xs.length + 1) c1)) w1) :
    wpList Try.prog ops Q (o :: rest) a (W.alloc (.cells #[ptr y] 31)) := by
  refine print_append_cells (w0 := W) 0 hgd s x 30 31 (.pointer none) 1 8 ho Try.underlying30 ptr_info rfl (by decide) (by decide) v xs.length (xs.map ptr) [ptr y] hs hx rfl (by intro u hu; simp at hu; subst hu; rfl) hO (Below.refl 0 W) (Nat.zero_le _) (by omega) ?_
  intro v1 w1 hown _ hg hat
  have hO1 : OwnP w1 v1 (xs ++ [y]) := by
    unfold OwnP
    rw [List.length_append, List.map_append]
    exact hown
  obtain ⟨A1, c1, hv⟩ := hO1.slice
  rw [List.length_append] at hv
  simp only [List.length_cons, List.length_nil] at hv
  subst hv
  exact h A1 c1 w1 hO1 hg hat
/-- Whatever leaves the machines' blocks leaves the machines. -/
theorem All.of_blocks (h : All w base mb cb hb c n f N T) (hk : ∀ (k : Nat) (cs : Array Value) (t : TypeId), w.heap[k]? = some (Obj.cells cs t (0, 0)) → t ≠ 31 → t ≠ 37 → w'.heap[k]? = w.heap[k]?) : All w' base mb cb hb c n f N T := by
  refine ⟨h.A.of_blocks (hk _ _ _ h.A.hm (by decide) (by decide)) (hk _ _ _ h.A.hc (by decide) (by decide)), (hk _ _ _ h.H (by decide) (by decide)).trans h.H, fun i hi => ?_, h.D, h.B, h.bm, h.J, h.O, h.K, h.G⟩
  have r := h.R i hi
  exact ⟨(hk _ _ _ r.P (by decide) (by decide)).trans r.P, r.L.move fun k e => by
    obtain ⟨cs, hc⟩ := own_typed r.L k e
    exact hk _ _ _ hc (by decide) (by decide), (hk _ _ _ r.M (by decide) (by decide)).trans r.M, r.ok, r.len, r.le⟩
theorem all_none (hA : At w mb cb (C c n)) (hc : c = 0) (hH : w.heap[hb]? = some (.cells #[.int .i64 1] 3 (0, 0))) (bm : base ≤ mb ∧ base ≤ cb) : All w base mb cb hb c n f 0 T :=
  ⟨hA, hH, fun i hi => absurd hi (by omega), fun i j hi => absurd hi (by omega), fun i hi => absurd hi (by omega), bm, fun i hi => absurd hi (by omega), fun i j hi => absurd hi (by omega), hc, fun i hi => absurd hi (by omega)⟩
def rec0 (m : M) (xb pb : Nat) : Rec := ⟨⟨⟨m, [], 0, 0, 0⟩, .nilIface, 0, false⟩, xb, pb, .slice none 0 0⟩
/-- One machine more. -/
theorem all_more (h : All w base mb cb hb c n f N T) (hw : base ≤ w.heap.size) (hp : PG w' w.heap.size mb (.slice none 0 0) 0 0 0) (hm : MG w' (w.heap.size + 1) w.heap.size (fvC hb) .nilIface 0 false) (hb' : Below w.heap.size w w') : All w' base mb cb hb c n (fun j => if j = N then rec0 (C c n) (w.heap.size + 1) w.heap.size else f j) (N + 1) T := by
  have h' := h.below hb'
  have hMk : Mk w' mb hb (rec0 (C c n) (w.heap.size + 1) w.heap.size) := ⟨hp, OwnA.nil w', hm, fun a ha => (by cases ha), by simp [rec0], by simp [rec0]⟩
  have hd : ∀ j, j < N → Dis (rec0 (C c n) (w.heap.size + 1) w.heap.size) (f j) ∧ Dis (f j) (rec0 (C c n) (w.heap.size + 1) w.heap.size) := by
    intro j hj
    have r := h.R j hj
    have a1 := r.M.lt
    have a2 := r.P.lt
    exact ⟨⟨by simp only [rec0]; omega, by simp only [rec0]; omega, fun k hk => by cases hk⟩, ⟨by simp only [rec0]; omega, by simp only [rec0]; omega, fun k hk e => by cases e⟩⟩
  constructor
  · exact h'.A
  · exact h'.H
  · intro j hj
    by_cases e : j = N
    · simp only [if_pos e]
      exact hMk
    · simp only [if_neg e]
      exact h'.R j (by omega)
  · intro a b ha hb2 hab
    by_cases e1 : a = N
    · have e2 : b ≠ N := fun e => hab (e1.trans e.symm)
      simp only [if_pos e1, if_neg e2]
      exact (hd b (by omega)).1
    · by_cases e2 : b = N
      · simp only [if_neg e1, if_pos e2]
        exact (hd a (by omega)).2
      · simp only [if_neg e1, if_neg e2]
        exact h.D a b (by omega) (by omega) hab
  · intro j hj
    by_cases e : j = N
    · simp only [if_pos e]
      exact ⟨Nat.le_succ_of_le hw, hw, fun k hk => by cases hk⟩
    · simp only [if_neg e]
      exact h.B j (by omega)
  · exact h.bm
  · intro j hj
    by_cases e : j = N
    · simp only [if_pos e]
      exact Or.inl ⟨rfl, .nil⟩
    · simp only [if_neg e]
      exact h.J j (by omega)
  · intro a b ha hb2 hab
    by_cases e1 : a = N
    · simp only [if_pos e1]
      intro q
      cases q
    · by_cases e2 : b = N
      · simp only [if_pos e2]
        intro _ q
        cases q
      · simp only [if_neg e1, if_neg e2]
        exact h.O a b (by omega) (by omega) hab
  · show c = _
    rw [cnt, cnt_congr (g := fun i => (f i).x.ended) (fun i hi => by rw [if_neg (by omega)]), if_pos rfl]
    simp only [rec0]
    have := h.K
    simpa using this
  · intro j hj
    by_cases e : j = N
    · simp only [if_pos e]
      exact Nat.zero_le _
    · simp only [if_neg e]
      exact h.G j (by omega)
end
end Go.Proofs.Ythgbgflpjggpmaa.Mem
