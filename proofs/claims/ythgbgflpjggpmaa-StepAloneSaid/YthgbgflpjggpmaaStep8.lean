/- Machines that each add 1 to one word: many of them, in memory. -/
import Derived.Test.YthgbgflpjggpmaaStep7
namespace Go.Proofs.Ythgbgflpjggpmaa.Mem
open Go.RowKit Go.Proofs.YthgbgflpjggpmaaW.PrintWords Go.Proofs.YthgbgflpjggpmaaW.PrintLast Go.Proofs.Ythgbgflpjggpmaa.Tags
set_option linter.unusedVariables false
set_option linter.unusedSimpArgs false
/-- How many of the first ones. -/
def cnt (f : Nat → Bool) : Nat → Nat
  | 0 => 0
  | n + 1 => cnt f n + if f n = true then 1 else 0
theorem cnt_congr {f g : Nat → Bool} : ∀ {n : Nat}, (∀ i, i < n → f i = g i) → cnt f n = cnt g n
  | 0, _ => rfl
  | n + 1, h => by rw [cnt, cnt, cnt_congr (n := n) (fun i hi => h i (by omega)), h n (by omega)]
theorem cnt_le (f : Nat → Bool) : ∀ n, cnt f n ≤ n
  | 0 => Nat.le_refl _
  | n + 1 => by have := cnt_le f n; rw [cnt]; split <;> omega
theorem cnt_set {f g : Nat → Bool} {i : Nat} (h1 : f i = false) (h2 : g i = true) (h3 : ∀ j, j ≠ i → g j = f j) : ∀ {n : Nat}, i < n → cnt g n = cnt f n + 1
  | 0, h => by omega
  | n + 1, h => by
    by_cases e : i = n
    · subst e
      rw [cnt, cnt, h1, h2, cnt_congr (f := g) (g := f) (fun j hj => h3 j (by omega))]
      simp
    · rw [cnt, cnt, cnt_set h1 h2 h3 (n := n) (by omega), h3 n (by omega)]
      omega
/-- A machine, where it lies, and its log's slice. -/
structure Rec where
  x : MS
  xb : Nat
  pb : Nat
  v : Value
def fvC (hb : Nat) : Value := .func (Fn.func 10) #[] #[.pointer (some ⟨hb, 0, none⟩)]
structure Mk (w : World) (mb hb : Nat) (r : Rec) : Prop where
  P : PG w r.pb mb r.v r.x.p.at_ r.x.p.left r.x.p.note
  L : OwnA w r.v r.x.p.log
  M : MG w r.xb r.pb (fvC hb) r.x.out r.x.steps r.x.ended
  ok : ∀ a, a ∈ r.x.p.log → a.good
  len : r.x.p.log.length + r.x.p.left.toNat ≤ 100000
  le : r.x.p.at_ + r.x.p.left.toNat ≤ 100000
/-- Nothing that one of them writes is the other's. -/
def Dis (r r' : Rec) : Prop := r.xb ≠ r'.xb ∧ r.pb ≠ r'.pb ∧ ∀ k, r.v.ownBlock = some k → r'.v.ownBlock ≠ some k
/-- A block that only machines write. -/
def Zt (w : World) (k : Nat) : Prop := ∃ cs t, w.heap[k]? = some (.cells cs t (0, 0)) ∧ (t = 74 ∨ t = 72 ∨ t = 67 ∨ t = 96 ∨ t = 76)
section
variable {w w' : World} {mb cb hb base : Nat} {r r' : Rec} {m : Mem.M}
theorem Mk.mc (h : Mk w mb hb r) (hA : At w mb cb m) : Mc w (Sx r.xb r.pb mb cb r.v) w r.xb r.pb mb cb (fvC hb) ⟨{ r.x.p with m := m }, r.x.out, r.x.steps, r.x.ended⟩ r.v :=
  ⟨⟨hA, h.P, h.L, Fx.refl _ _, Or.inr (Or.inl rfl), Or.inr (Or.inr (Or.inl rfl)), Or.inr (Or.inr (Or.inr (Or.inl rfl))), fun k hk => Or.inl (Or.inr (Or.inr (Or.inr (Or.inr hk)))), h.ok, h.len, h.le⟩, h.M, Or.inl rfl⟩
theorem mk_of {S : Nat → Prop} {w0 : World} {x : MS} {xb pb : Nat} {v : Value} (h : Mc w0 S w xb pb mb cb (fvC hb) x v) : Mk w mb hb ⟨x, xb, pb, v⟩ := ⟨h.P.P, h.P.L, h.M, h.P.ok, h.P.len, h.P.le⟩
theorem Mk.zt (h : Mk w mb hb r) (hA : At w mb cb m) {k : Nat} (hk : Sx r.xb r.pb mb cb r.v k) : Zt w k := by
  rcases hk with rfl | rfl | rfl | rfl | e
  · exact ⟨_, _, h.M, Or.inl rfl⟩
  · exact ⟨_, _, h.P, Or.inr (Or.inl rfl)⟩
  · exact ⟨_, _, hA.hm, Or.inr (Or.inr (Or.inl rfl))⟩
  · exact ⟨_, _, hA.hc, Or.inr (Or.inr (Or.inr (Or.inl rfl)))⟩
  · obtain ⟨cs, hc⟩ := own_typed h.L k e
    exact ⟨_, _, hc, Or.inr (Or.inr (Or.inr (Or.inr rfl)))⟩
theorem Zt.ne {k : Nat} (h : Zt w k) {cs : Array Value} {t : TypeId} {g : Nat} (hg : w.heap[g]? = some (.cells cs t (0, 0))) (ht : t ≠ 74 ∧ t ≠ 72 ∧ t ≠ 67 ∧ t ≠ 96 ∧ t ≠ 76) : g ≠ k := by
  rintro rfl
  obtain ⟨cs', t', h1, h2⟩ := h
  rw [hg] at h1
  injection h1 with h1
  injection h1 with _ h1
  subst h1
  obtain ⟨t1, t2, t3, t4, t5⟩ := ht
  rcases h2 with e | e | e | e | e
  · exact t1 e
  · exact t2 e
  · exact t3 e
  · exact t4 e
  · exact t5 e
/-- Another machine's step leaves a machine as it was. -/
theorem Mk.far (h : Mk w mb hb r) (k : Mk w mb hb r') (hA : At w mb cb m) (hd : Dis r' r) (hF : Fx (Sx r'.xb r'.pb mb cb r'.v) w w') : Mk w' mb hb r := by
  have n1 : ¬ Sx r'.xb r'.pb mb cb r'.v r.xb := by
    rintro (e | e | e | e | e)
    · exact hd.1 e.symm
    · exact blk_ne h.M k.P (by decide) e
    · exact blk_ne h.M hA.hm (by decide) e
    · exact blk_ne h.M hA.hc (by decide) e
    · exact k.L.ne h.M (by decide) e.symm
  have n2 : ¬ Sx r'.xb r'.pb mb cb r'.v r.pb := by
    rintro (e | e | e | e | e)
    · exact blk_ne h.P k.M (by decide) e
    · exact hd.2.1 e.symm
    · exact (h.P.ne hA).1 e
    · exact (h.P.ne hA).2 e
    · exact k.L.ne h.P (by decide) e.symm
  refine ⟨(hF.block _ h.P.lt n2).trans h.P, h.L.move fun i hi => hF.block i (h.L.lt hi) ?_, (hF.block _ h.M.lt n1).trans h.M, h.ok, h.len, h.le⟩
  obtain ⟨cs, hc⟩ := own_typed h.L i hi
  rintro (e | e | e | e | e)
  · exact blk_ne hc k.M (by decide) e
  · exact blk_ne hc k.P (by decide) e
  · exact blk_ne hc hA.hm (by decide) e
  · exact blk_ne hc hA.hc (by decide) e
  · exact hd.2.2 i e hi
theorem Mk.below (h : Mk w mb hb r) (hb' : Below w.heap.size w w') : Mk w' mb hb r := ⟨h.P.below hb', h.L.below hb', h.M.below hb', h.ok, h.len, h.le⟩
end
/-- Many machines, one word. -/
structure All (w : World) (base mb cb hb : Nat) (c n : Int) (f : Nat → Rec) (N : Nat) (T : Nat) : Prop where
  A : At w mb cb (C c n)
  H : w.heap[hb]? = some (.cells #[.int .i64 1] 3 (0, 0))
  R : ∀ i, i < N → Mk w mb hb (f i)
  D : ∀ i j, i < N → j < N → i ≠ j → Dis (f i) (f j)
  B : ∀ i, i < N → base ≤ (f i).xb ∧ base ≤ (f i).pb ∧ ∀ k, (f i).v.ownBlock = some k → base ≤ k
  bm : base ≤ mb ∧ base ≤ cb
  J : ∀ i, i < N → Run_ (f i).x ∨ End_ c (f i).x
  O : ∀ i j, i < N → j < N → i ≠ j → (f i).x.ended = true → (f j).x.ended = true → (f i).x.out ≠ (f j).x.out
  K : c = cnt (fun i => (f i).x.ended) N
  G : ∀ i, i < N → (f i).x.p.log.length ≤ T
section
variable {w w' : World} {mb cb hb base N T : Nat} {c n : Int} {f : Nat → Rec}
theorem All.below (h : All w base mb cb hb c n f N T) (hb' : Below w.heap.size w w') : All w' base mb cb hb c n f N T :=
  ⟨h.A.below hb', (blk_below h.H hb'), fun i hi => (h.R i hi).below hb', h.D, h.B, h.bm, h.J, h.O, h.K, h.G⟩
theorem All.put {r' : Rec} {c' n' : Int} {i : Nat} (h : All w base mb cb hb c n f N T) (hi : i < N) (hc : c ≤ c') (hx : r'.xb = (f i).xb) (hp : r'.pb = (f i).pb) (hM : Mk w' mb hb r') (hA : At w' mb cb (C c' n')) (hF : Fx (Sx (f i).xb (f i).pb mb cb (f i).v) w w') (hv : ∀ k, r'.v.ownBlock = some k → Sx (f i).xb (f i).pb mb cb (f i).v k ∨ w.heap.size ≤ k)
    (hJ : Run_ r'.x ∨ End_ c' r'.x) (hO : r'.x.ended = true → ∀ j, j < N → j ≠ i → (f j).x.ended = true → (f j).x.out ≠ r'.x.out) (hK : c' = cnt (fun j => (if j = i then r' else f j).x.ended) N) (hG : r'.x.p.log.length ≤ T + 1) : All w' base mb cb hb c' n' (fun j => if j = i then r' else f j) N (T + 1) := by
  have hRi := h.R i hi
  have hd : ∀ j, j < N → j ≠ i → Dis r' (f j) ∧ Dis (f j) r' := by
    intro j hj hji
    have d1 := h.D i j hi hj (Ne.symm hji)
    have key : ∀ k, r'.v.ownBlock = some k → (f j).v.ownBlock ≠ some k := by
      intro k hk e
      obtain ⟨cs, hcs⟩ := own_typed (h.R j hj).L k e
      rcases hv k hk with (q | q | q | q | q) | q
      · exact blk_ne hcs hRi.M (by decide) q
      · exact blk_ne hcs hRi.P (by decide) q
      · exact blk_ne hcs h.A.hm (by decide) q
      · exact blk_ne hcs h.A.hc (by decide) q
      · exact d1.2.2 k q e
      · have := blk_lt hcs
        omega
    exact ⟨⟨by rw [hx]; exact d1.1, by rw [hp]; exact d1.2.1, key⟩, ⟨by rw [hx]; exact Ne.symm d1.1, by rw [hp]; exact Ne.symm d1.2.1, fun k hk e => key k e hk⟩⟩
  have hfar : ∀ j, j < N → j ≠ i → Mk w' mb hb (f j) := fun j hj hji => (h.R j hj).far hRi h.A (h.D i j hi hj (Ne.symm hji)) hF
  have hbw : base ≤ w.heap.size := by
    have := (h.B i hi).1
    have := hRi.M.lt
    omega
  constructor
  · exact hA
  · exact (hF.block hb (blk_lt h.H) (fun e => (hRi.zt h.A e).ne h.H (by decide) rfl)).trans h.H
  · intro j hj
    by_cases e : j = i
    · simp only [if_pos e]
      exact hM
    · simp only [if_neg e]
      exact hfar j hj e
  · intro a b ha hb' hab
    by_cases e1 : a = i
    · have e2 : b ≠ i := fun e => hab (e1.trans e.symm)
      simp only [if_pos e1, if_neg e2]
      exact (hd b hb' e2).1
    · by_cases e2 : b = i
      · simp only [if_neg e1, if_pos e2]
        exact (hd a ha e1).2
      · simp only [if_neg e1, if_neg e2]
        exact h.D a b ha hb' hab
  · intro j hj
    by_cases e : j = i
    · simp only [if_pos e]
      obtain ⟨b1, b2, b3⟩ := h.B i hi
      refine ⟨hx ▸ b1, hp ▸ b2, fun k hk => ?_⟩
      rcases hv k hk with (q | q | q | q | q) | q
      · exact q ▸ b1
      · exact q ▸ b2
      · exact q ▸ h.bm.1
      · exact q ▸ h.bm.2
      · exact b3 k q
      · exact Nat.le_trans hbw q
    · simp only [if_neg e]
      exact h.B j hj
  · exact h.bm
  · intro j hj
    by_cases e : j = i
    · simp only [if_pos e]
      exact hJ
    · simp only [if_neg e]
      rcases h.J j hj with q | ⟨q1, q2, o, q3, q4, q5⟩
      · exact Or.inl q
      · exact Or.inr ⟨q1, q2, o, q3, by omega, q5⟩
  · intro a b ha hb' hab
    by_cases e1 : a = i
    · have e2 : b ≠ i := fun e => hab (e1.trans e.symm)
      simp only [if_pos e1, if_neg e2]
      exact fun h1 h2 e => hO h1 b hb' e2 h2 e.symm
    · by_cases e2 : b = i
      · simp only [if_neg e1, if_pos e2]
        exact fun h1 h2 => hO h2 a ha e1 h1
      · simp only [if_neg e1, if_neg e2]
        exact h.O a b ha hb' hab
  · exact hK
  · intro j hj
    by_cases e : j = i
    · simp only [if_pos e]
      exact hG
    · simp only [if_neg e]
      exact Nat.le_trans (h.G j hj) (Nat.le_succ _)
/-- A step of one of them. -/
theorem turn_calls (h : All w base mb cb hb c n f N T) (hN : N ≤ 100) (hT : T ≤ 99999) {i : Nat} (hi : i < N) :
    Calls Try.prog 13 #[ptr (f i).xb] w fun e w' => (∃ b, e = .returned (.bool b)) ∧ ∃ c' n' f' Z, All w' base mb cb hb c' n' f' N (T + 1) ∧ (∀ j, (f' j).xb = (f j).xb) ∧ Fx Z w w' ∧ ∀ k, Z k → Zt w k ∧ base ≤ k := by
  have hc0 : 0 ≤ c ∧ c ≤ 1000 := by
    have := cnt_le (fun i => (f i).x.ended) N
    rw [h.K]
    omega
  have hmc := (h.R i hi).mc h.A
  refine (step_calls (F := countF 1) hmc (Nat.le_trans (h.G i hi) hT) countF_ret (fun W => enters_ Try.func10 (by kernel_rfl) rfl _ W) (fun W hF hs => ?_)).mono ?_
  · have hnf : ¬ Sf (f i).pb mb cb (f i).v hb := by
      intro e
      exact ((h.R i hi).zt h.A (Or.inr e)).ne h.H (by decide) rfl
    have hkH : W.heap[hb]? = some (.cells #[.int .i64 1] 3 (0, 0)) := (hF.block hb (blk_lt h.H) hnf).trans h.H
    exact adds_calls hs hkH hnf (Or.inr rfl) (Nat.zero_le _)
  · rintro e w' ⟨rfl, v', h'⟩
    refine ⟨⟨_, rfl⟩, ?_⟩
    have hMk := mk_of h'
    have hZ : ∀ k, Sx (f i).xb (f i).pb mb cb (f i).v k → Zt w k ∧ base ≤ k := by
      intro k hk
      refine ⟨(h.R i hi).zt h.A hk, ?_⟩
      obtain ⟨b1, b2, b3⟩ := h.B i hi
      rcases hk with q | q | q | q | q
      · exact q ▸ b1
      · exact q ▸ b2
      · exact q ▸ h.bm.1
      · exact q ▸ h.bm.2
      · exact b3 k q
    have hxb : ∀ (r' : Rec), r'.xb = (f i).xb → ∀ j, (if j = i then r' else f j).xb = (f j).xb := by
      intro r' e j
      by_cases q : j = i
      · rw [if_pos q, e, q]
      · rw [if_neg q]
    rcases h.J i hi with hrun | hend
    · have hst := step_adds ⟨{ (f i).x.p with m := C c n }, (f i).x.out, (f i).x.steps, (f i).x.ended⟩ c n hc0 hrun rfl
      generalize MS.step (countF 1) ⟨{ (f i).x.p with m := C c n }, (f i).x.out, (f i).x.steps, (f i).x.ended⟩ = y at h' hMk hst
      have hA' := h'.P.A
      rcases hst with ⟨n', e1, e2, e3⟩ | ⟨n', e1, e2, e3, e4⟩
      · rw [e1] at hA'
        refine ⟨c, n', _, _, h.put (r' := ⟨y, (f i).xb, (f i).pb, v'⟩) hi (Int.le_refl _) rfl rfl hMk hA' h'.P.F h'.P.sv (Or.inl e2) (fun q => ?_) ?_ ?_, hxb _ rfl, h'.P.F, hZ⟩
        · exact absurd (e2.1.symm.trans q) (by decide)
        · rw [h.K]
          have : ∀ j, j < N → (f j).x.ended = (if j = i then (⟨y, (f i).xb, (f i).pb, v'⟩ : Rec) else f j).x.ended := by
            intro j hj
            by_cases q : j = i
            · rw [if_pos q, q, hrun.1]
              exact e2.1.symm
            · rw [if_neg q]
          rw [cnt_congr this]
        · show y.p.log.length ≤ T + 1
          rw [e3]
          have := h.G i hi
          simp only
          omega
      · rw [e1] at hA'
        refine ⟨c + 1, n', _, _, h.put (r' := ⟨y, (f i).xb, (f i).pb, v'⟩) hi (by omega) rfl rfl hMk hA' h'.P.F h'.P.sv (Or.inr ⟨e2, e3, c, hc0.1, by omega, e4⟩) (fun _ j hj hji q => ?_) ?_ ?_, hxb _ rfl, h'.P.F, hZ⟩
        · rcases h.J j hj with r | ⟨_, _, o, o1, o2, o3⟩
          · exact absurd (r.1.symm.trans q) (by decide)
          · rw [o3]
            show _ ≠ y.out
            rw [e4]
            intro e
            injection e with _ e
            injection e with _ e
            omega
        · rw [cnt_set (f := fun j => (f j).x.ended) (g := fun j => (if j = i then (⟨y, (f i).xb, (f i).pb, v'⟩ : Rec) else f j).x.ended) hrun.1 (by simp only [if_true]; exact e2) (fun j hj => by simp only [if_neg hj]) hi, h.K]
          simp
        · show y.p.log.length ≤ T + 1
          rw [e3]
          simp
    · have hy : MS.step (countF 1) ⟨{ (f i).x.p with m := C c n }, (f i).x.out, (f i).x.steps, (f i).x.ended⟩ = ⟨{ (f i).x.p with m := C c n }, (f i).x.out, (f i).x.steps, (f i).x.ended⟩ := by
        unfold MS.step
        rw [if_pos hend.1]
      rw [hy] at h' hMk
      refine ⟨c, n, _, _, h.put (r' := ⟨⟨{ (f i).x.p with m := C c n }, (f i).x.out, (f i).x.steps, (f i).x.ended⟩, (f i).xb, (f i).pb, v'⟩) hi (Int.le_refl _) rfl rfl hMk h'.P.A h'.P.F h'.P.sv (Or.inr hend) (fun q j hj hji q2 => h.O j i hj hi hji q2 q) ?_ (Nat.le_trans (h.G i hi) (Nat.le_succ _)), hxb _ rfl, h'.P.F, hZ⟩
      have : ∀ j, j < N → (f j).x.ended = (if j = i then (⟨⟨{ (f i).x.p with m := C c n }, (f i).x.out, (f i).x.steps, (f i).x.ended⟩, (f i).xb, (f i).pb, v'⟩ : Rec) else f j).x.ended := by
        intro j hj
        by_cases q : j = i
        · rw [if_pos q, q]
        · rw [if_neg q]
      exact h.K.trans (congrArg (fun z : Nat => (z : Int)) (cnt_congr this))
end
end Go.Proofs.Ythgbgflpjggpmaa.Mem
