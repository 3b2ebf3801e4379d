/- Machines that each add 1 to one word: many of them, in memory. -/
import Derived.Test.YthgbgflpjggpmaaStep7
namespace Go.Proofs.Ythgbgflpjggpmaa.Mem
open Go.RowKit Go.Proofs.YthgbgflpjggpmaaW.PrintWords Go.Proofs.YthgbgflpjggpmaaW.PrintLast Go.Proofs.Ythgbgflpjggpmaa.Tags
set_option linter.unusedVariables false
set_option linter.unusedSimpArgs false
/-- How many of the first ones. -/
def cnt (f : Nat → Bool) : Nat → Nat
  | 0 => 0
  | n + 1 => cnt f n + if f n = true then 1 else 0
/-- A machine, where it lies, and its log's slice. -/
structure Rec where
  x : MS
  xb : Nat
  pb : Nat
  v : Value
def fvC (hb : Nat) : Value := .func (Fn.func 10) #[] #[.pointer (some ⟨hb, 0, none⟩)]
structure Mk (w : World) (mb hb : Nat) (r : Rec) : Prop where
  P : PG w r.pb mb r.v r.x.p.at_ r.x.p.left r.x.p.note
  L : OwnA w r.v r.x.p.log
  M : MG w r.xb r.pb (fvC hb) r.x.out r.x.steps r.x.ended
  ok : ∀ a, a ∈ r.x.p.log → a.good
  len : r.x.p.log.length + r.x.p.left.toNat ≤ 100000
  le : r.x.p.at_ + r.x.p.left.toNat ≤ 100000
/-- Nothing that one of them writes is the other's. -/
def Dis (r r' : Rec) : Prop := r.xb ≠ r'.xb ∧ r.pb ≠ r'.pb ∧ ∀ k, r.v.ownBlock = some k → r'.v.ownBlock ≠ some k
/-- A block that only machines write. -/
def Zt (w : World) (k : Nat) : Prop := ∃ cs t, w.heap[k]? = some (.cells cs t (0, 0)) ∧ (t = 74 ∨ t = 72 ∨ t = 67 ∨ t = 96 ∨ t = 76)
section
variable {w w' : World} {mb cb hb base : Nat} {r r' : Rec} {m : Mem.M}
theorem Mk.mc (h : Mk w mb hb r) (hA : At w mb cb m) : Mc w (Sx r.xb r.pb mb cb r.v) w r.xb r.pb mb cb (fvC hb) ⟨{ r.x.p with m := m }, r.x.out, r.x.steps, r.x.ended⟩ r.v :=
  ⟨⟨hA, h.P, h.L, Fx.refl _ _, Or.inr (Or.inl rfl), Or.inr (Or.inr (Or.inl rfl)), Or.inr (Or.inr (Or.inr (Or.inl rfl))), fun k hk => Or.inl (Or.inr (Or.inr (Or.inr (Or.inr hk)))), h.ok, h.len, h.le⟩, h.M, Or.inl rfl⟩
theorem Mk.zt (h : Mk w mb hb r) (hA : At w mb cb m) {k : Nat} (hk : Sx r.xb r.pb mb cb r.v k) : Zt w k := by
  rcases hk with rfl | rfl | rfl | rfl | e
  · exact ⟨_, _, h.M, Or.inl rfl⟩
  · exact ⟨_, _, h.P, Or.inr (Or.inl rfl)⟩
  · exact ⟨_, _, hA.hm, Or.inr (Or.inr (Or.inl rfl))⟩
  · exact ⟨_, _, hA.hc, Or.inr (Or.inr (Or.inr (Or.inl rfl)))⟩
  · obtain ⟨cs, hc⟩ := own_typed h.L k e
    exact ⟨_, _, hc, Or.inr (Or.inr (Or.inr (Or.inr rfl)))⟩
theorem Zt.ne {k : Nat} (h : Zt w k) {cs : Array Value} {t : TypeId} {g : Nat} (hg : w.heap[g]? = some (.cells cs t (0, 0))) (ht : t ≠ 74 ∧ t ≠ 72 ∧ t ≠ 67 ∧ t ≠ 96 ∧ t ≠ 76) : g ≠ k := by
  rintro rfl
  obtain ⟨cs', t', h1, h2⟩ := h
  rw [hg] at h1
  injection h1 with h1
  injection h1 with _ h1
  subst h1
  obtain ⟨t1, t2, t3, t4, t5⟩ := ht
  rcases h2 with e | e | e | e | e
  · exact t1 e
  · exact t2 e
  · exact t3 e
  · exact t4 e
  · exact t5 e
/-- Another machine's step leaves a machine as it was. -/
theorem Mk.far (h : Mk w mb hb r) (k : Mk w mb hb r') (hA : At w mb cb m) (hd : Dis r' r) (hF : Fx (Sx r'.xb r'.pb mb cb r'.v) w w') : Mk w' mb hb r := by
  have n1 : ¬ Sx r'.xb r'.pb mb cb r'.v r.xb := by
    rintro (e | e | e | e | e)
    · exact hd.1 e.symm
    · exact blk_ne h.M k.P (by decide) e
    · exact blk_ne h.M hA.hm (by decide) e
    · exact blk_ne h.M hA.hc (by decide) e
    · exact k.L.ne h.M (by decide) e.symm
  have n2 : ¬ Sx r'.xb r'.pb mb cb r'.v r.pb := by
    rintro (e | e | e | e | e)
    · exact blk_ne h.P k.M (by decide) e
    · exact hd.2.1 e.symm
    · exact (h.P.ne hA).1 e
    · exact (h.P.ne hA).2 e
    · exact k.L.ne h.P (by decide) e.symm
  refine ⟨(hF.block _ h.P.lt n2).trans h.P, h.L.move fun i hi => hF.block i (h.L.lt hi) ?_, (hF.block _ h.M.lt n1).trans h.M, h.ok, h.len, h.le⟩
  obtain ⟨cs, hc⟩ := own_typed h.L i hi
  rintro (e | e | e | e | e)
  · exact blk_ne hc k.M (by decide) e
  · exact blk_ne hc k.P (by decide) e
  · exact blk_ne hc hA.hm (by decide) e
  · exact blk_ne hc hA.hc (by decide) e
  · exact hd.2.2 i e hi
theorem Mk.below (h : Mk w mb hb r) (hb' : Below w.heap.size w w') : Mk w' mb hb r := ⟨h.P.below hb', h.L.below hb', h.M.below hb', h.ok, h.len, h.le⟩
end
/-- Many machines, one word. -/
structure All (w : World) (base mb cb hb : Nat) (c n : Int) (f : Nat → Rec) (N : Nat) (T : Nat) : Prop where
  A : At w mb cb (C c n)
  H : w.heap[hb]? = some (.cells #[.int .i64 1] 3 (0, 0))
  R : ∀ i, i < N → Mk w mb hb (f i)
  D : ∀ i j, i < N → j < N → i ≠ j → Dis (f i) (f j)
  B : ∀ i, i < N → base ≤ (f i).xb ∧ base ≤ (f i).pb ∧ ∀ k, (f i).v.ownBlock = some k → base ≤ k
  bm : base ≤ mb ∧ base ≤ cb
  J : ∀ i, i < N → Run_ (f i).x ∨ End_ c (f i).x
  O : ∀ i j, i < N → j < N → i ≠ j → (f i).x.ended = true → (f j).x.ended = true → (f i).x.out ≠ (f j).x.out
  K : c = cnt (fun i => (f i).x.ended) N
  G : ∀ i, i < N → (f i).x.p.log.length ≤ T
section
variable {w w' : World} {mb cb hb base N T : Nat} {c n : Int} {f : Nat → Rec}
theorem All.below (h : All w base mb cb hb c n f N T) (hb' : Below w.heap.size w w') : All w' base mb cb hb c n f N T :=
  ⟨h.A.below hb', (blk_below h.H hb'), fun i hi => (h.R i hi).below hb', h.D, h.B, h.bm, h.J, h.O, h.K, h.G⟩
theorem All.put {r' : Rec} {c' n' : Int} {i : Nat} (h : All w base mb cb hb c n f N T) (hi : i < N) (hc : c ≤ c') (hx : r'.xb = (f i).xb) (hp : r'.pb = (f i).pb) (hM : Mk w' mb hb r') (hA : At w' mb cb (C c' n')) (hF : Fx (Sx (f i).xb (f i).pb mb cb (f i).v) w w') (hv : ∀ k, r'.v.ownBlock = some k → Sx (f i).xb (f i).pb mb cb (f i).v k ∨ w.heap.size ≤ k)
    (hJ : Run_ r'.x ∨ End_ c' r'.x) (hO : r'.x.ended = true → ∀ j, j < N → j ≠ i → (f j).x.ended = true → (f j).x.out ≠ r'.x.out) (hK : c' = cnt (fun j => (if j = i then r' else f j).x.ended) N) (hG : r'.x.p.log.length ≤ T + 1) : All w' base mb cb hb c' n' (fun j => if j = i then r' else f j) N (T + 1) := by
  have hRi := h.R i hi
  have hd : ∀ j, j < N → j ≠ i → Dis r' (f j) ∧ Dis (f j) r' := by
    intro j hj hji
    have d1 := h.D i j hi hj (Ne.symm hji)
    have key : ∀ k, r'.v.ownBlock = some k → (f j).v.ownBlock ≠ some k := by
      intro k hk e
      obtain ⟨cs, hcs⟩ := own_typed (h.R j hj).L k e
      rcases hv k hk with (q | q | q | q | q) | q
      · exact blk_ne hcs hRi.M (by decide) q
      · exact blk_ne hcs hRi.P (by decide) q
      · exact blk_ne hcs h.A.hm (by decide) q
      · exact blk_ne hcs h.A.hc (by decide) q
      · exact d1.2.2 k q e
      · have := blk_lt hcs
        omega
    exact ⟨⟨by rw [hx]; exact d1.1, by rw [hp]; exact d1.2.1, key⟩, ⟨by rw [hx]; exact Ne.symm d1.1, by rw [hp]; exact Ne.symm d1.2.1, fun k hk e => key k e hk⟩⟩
  have hfar : ∀ j, j < N → j ≠ i → Mk w' mb hb (f j) := fun j hj hji => (h.R j hj).far hRi h.A (h.D i j hi hj (Ne.symm hji)) hF
  have hbw : base ≤ w.heap.size := by
    have := (h.B i hi).1
    have := hRi.M.lt
    omega
  constructor
  · exact hA
  · exact (hF.block hb (blk_lt h.H) (fun e => (hRi.zt h.A e).ne h.H (by decide) rfl)).trans h.H
  · intro j hj
    by_cases e : j = i
    · simp only [if_pos e]
      exact hM
    · simp only [if_neg e]
      exact hfar j hj e
  · intro a b ha hb' hab
    by_cases e1 : a = i
    · have e2 : b ≠ i := fun e => hab (e1.trans e.symm)
      simp only [if_pos e1, if_neg e2]
      exact (hd b hb' e2).1
    · by_cases e2 : b = i
      · simp only [if_neg e1, if_pos e2]
        exact (hd a ha e1).2
      · simp only [if_neg e1, if_neg e2]
        exact h.D a b ha hb' hab
  · intro j hj
    by_cases e : j = i
    · simp only [if_pos e]
      obtain ⟨b1, b2, b3⟩ := h.B i hi
      refine ⟨hx ▸ b1, hp ▸ b2, fun k hk => ?_⟩
      rcases hv k hk with (q | q | q | q | q) | q
      · exact q ▸ b1
      · exact q ▸ b2
      · exact q ▸ h.bm.1
      · exact q ▸ h.bm.2
      · exact b3 k q
      · exact Nat.le_trans hbw q
    · simp only [if_neg e]
      exact h.B j hj
  · exact h.bm
  · intro j hj
    by_cases e : j = i
    · simp only [if_pos e]
      exact hJ
    · simp only [if_neg e]
      rcases h.J j hj with q | ⟨q1, q2, o, q3, q4, q5⟩
      · exact Or.inl q
      · exact Or.inr ⟨q1, q2, o, q3, by omega, q5⟩
  · intro a b ha hb' hab
    by_cases e1 : a = i
    · have e2 : b ≠ i := fun e => hab (e1.trans e.symm)
      simp only [if_pos e1, if_neg e2]
      exact fun h1 h2 e => hO h1 b hb' e2 h2 e.symm
    · by_cases e2 : b = i
      · simp only [if_neg e1, if_pos e2]
        exact fun h1 h2 => hO h2 a ha e1 h1
      · simp only [if_neg e1, if_neg e2]
        exact h.O a b ha hb' hab
  · exact hK
  · intro j hj
    by_cases e : j = i
    · simp only [if_pos e]
      exact hG
    · simp only [if_neg e]
      exact Nat.le_trans (h.G j hj) (Nat.le_succ _)
end
end Go.Proofs.Ythgbgflpjggpmaa.Mem
