/- Machines that do asks: what a step of one of them does, in memory. -/
import Derived.Test.YthgbgflpjggpmaaStep8
import Derived.Test.YthgbgflpjggpmaaStepAlone0
namespace Go.Proofs.Ythgbgflpjggpmaa.Mem
open Go.RowKit Go.Proofs.YthgbgflpjggpmaaW.PrintWords Go.Proofs.YthgbgflpjggpmaaW.PrintLast Go.Proofs.Ythgbgflpjggpmaa.Tags
open Go.Proofs.Ythgbgflpjggpmaa.PStepAlone (S57 k57 z57 rd_T57)
set_option linter.unusedVariables false
set_option linter.unusedSimpArgs false
def fvD (lb : Nat) : Value := .func (Fn.func 38) #[] #[.pointer (some ⟨lb, 0, none⟩)]
/-- A machine, but for memory. -/
structure Md (w : World) (mb : Nat) (fv : Value) (r : Rec) : Prop where
  P : PG w r.pb mb r.v r.x.p.at_ r.x.p.left r.x.p.note
  L : OwnA w r.v r.x.p.log
  M : MG w r.xb r.pb fv r.x.out r.x.steps r.x.ended
  ok : ∀ a, a ∈ r.x.p.log → a.good
  len : r.x.p.log.length + r.x.p.left.toNat ≤ 100000
  le : r.x.p.at_ + r.x.p.left.toNat ≤ 100000
/-- A machine with another memory. -/
def MS.at (x : MS) (m : M) : MS := ⟨{ x.p with m := m }, x.out, x.steps, x.ended⟩
section
variable {w w' : World} {mb cb base lb : Nat} {r r' : Rec} {m : Mem.M} {fv fv' : Value}
theorem Md.mc (h : Md w mb fv r) (hA : At w mb cb m) : Mc w (Sx r.xb r.pb mb cb r.v) w r.xb r.pb mb cb fv (r.x.at m) r.v :=
  ⟨⟨hA, h.P, h.L, Fx.refl _ _, Or.inr (Or.inl rfl), Or.inr (Or.inr (Or.inl rfl)), Or.inr (Or.inr (Or.inr (Or.inl rfl))), fun k hk => Or.inl (Or.inr (Or.inr (Or.inr (Or.inr hk)))), h.ok, h.len, h.le⟩, h.M, Or.inl rfl⟩
theorem md_of {S : Nat → Prop} {w0 : World} {x : MS} {xb pb : Nat} {v : Value} (h : Mc w0 S w xb pb mb cb fv x v) : Md w mb fv ⟨x, xb, pb, v⟩ := ⟨h.P.P, h.P.L, h.M, h.P.ok, h.P.len, h.P.le⟩
theorem Md.zt (h : Md w mb fv r) (hA : At w mb cb m) {k : Nat} (hk : Sx r.xb r.pb mb cb r.v k) : Zt w k := by
  rcases hk with rfl | rfl | rfl | rfl | e
  · exact ⟨_, _, h.M, Or.inl rfl⟩
  · exact ⟨_, _, h.P, Or.inr (Or.inl rfl)⟩
  · exact ⟨_, _, hA.hm, Or.inr (Or.inr (Or.inl rfl))⟩
  · exact ⟨_, _, hA.hc, Or.inr (Or.inr (Or.inr (Or.inl rfl)))⟩
  · obtain ⟨cs, hc⟩ := own_typed h.L k e
    exact ⟨_, _, hc, Or.inr (Or.inr (Or.inr (Or.inr rfl)))⟩
/-- Another machine's step leaves a machine as it was. -/
theorem Md.far (h : Md w mb fv r) (k : Md w mb fv' r') (hA : At w mb cb m) (hd : Dis r' r) (hF : Fx (Sx r'.xb r'.pb mb cb r'.v) w w') : Md w' mb fv r := by
  have n1 : ¬ Sx r'.xb r'.pb mb cb r'.v r.xb := by
    rintro (e | e | e | e | e)
    · exact hd.1 e.symm
    · exact blk_ne h.M k.P (by decide) e
    · exact blk_ne h.M hA.hm (by decide) e
    · exact blk_ne h.M hA.hc (by decide) e
    · exact k.L.ne h.M (by decide) e.symm
  have n2 : ¬ Sx r'.xb r'.pb mb cb r'.v r.pb := by
    rintro (e | e | e | e | e)
    · exact blk_ne h.P k.M (by decide) e
    · exact hd.2.1 e.symm
    · exact (h.P.ne hA).1 e
    · exact (h.P.ne hA).2 e
    · exact k.L.ne h.P (by decide) e.symm
  refine ⟨(hF.block _ h.P.lt n2).trans h.P, h.L.move fun i hi => hF.block i (h.L.lt hi) ?_, (hF.block _ h.M.lt n1).trans h.M, h.ok, h.len, h.le⟩
  obtain ⟨cs, hc⟩ := own_typed h.L i hi
  rintro (e | e | e | e | e)
  · exact blk_ne hc k.M (by decide) e
  · exact blk_ne hc k.P (by decide) e
  · exact blk_ne hc hA.hm (by decide) e
  · exact blk_ne hc hA.hc (by decide) e
  · exact hd.2.2 i e hi
/-- Whatever leaves the machine's blocks leaves the machine. -/
theorem Md.of_blocks (h : Md w mb fv r) (hk : ∀ (k : Nat) (cs : Array Value) (t : TypeId), w.heap[k]? = some (Obj.cells cs t (0, 0)) → (t = 74 ∨ t = 72 ∨ t = 76) → w'.heap[k]? = w.heap[k]?) : Md w' mb fv r :=
  ⟨(hk _ _ _ h.P (Or.inr (Or.inl rfl))).trans h.P, h.L.move fun k e => by
    obtain ⟨cs, hc⟩ := own_typed h.L k e
    exact hk _ _ _ hc (Or.inr (Or.inr rfl)), (hk _ _ _ h.M (Or.inl rfl)).trans h.M, h.ok, h.len, h.le⟩
theorem Md.below (h : Md w mb fv r) (hb' : Below w.heap.size w w') : Md w' mb fv r := ⟨h.P.below hb', h.L.below hb', h.M.below hb', h.ok, h.len, h.le⟩
theorem Md.kq (h : Md w mb fv r) (hq : Kq w w') : Md w' mb fv r := h.of_blocks fun k cs t hk ht => (hq k t cs hk (by rcases ht with e | e | e <;> (rw [e]; decide))).trans hk.symm
theorem At.kq (h : At w mb cb m) (hq : Kq w w') : At w' mb cb m := h.of_blocks ((hq _ _ _ h.hm (by decide)).trans h.hm.symm) ((hq _ _ _ h.hc (by decide)).trans h.hc.symm)
theorem Kq.of_below (h : Below w.heap.size w w') : Kq w w' := fun k t cs hk _ => blk_below hk h
theorem Kq.trans {w2 : World} (h : Kq w w') (k : Kq w' w2) : Kq w w2 := fun i t cs hi ht => k i t cs (h i t cs hi ht) ht
end
section
variable {l : List S57} {x : MS} {r : R5}
/-- A machine that hasn't ended. -/
structure Opn (l : List S57) (x : MS) (r : R5) : Prop where
  e : x.ended = false
  ld : Leads l r0 x.p.log r
  o : x.out = .nilIface
  s : x.steps = r.n
  n : x.p.note = r.n
  g : r.n = x.p.log.length
  a0 : 0 ≤ r.a
  a1 : r.a ≤ l.length
  na : r.n ≤ r.a
  f : r.a < l.length ∨ r = r0
/-- A machine that has ended. -/
structure Sht (l : List S57) (x : MS) (r : R5) : Prop where
  e : x.ended = true
  o : x.out = .iface 47 (.agg r.v)
  s : x.steps = r.n
  n : x.p.note = r.n
  g : x.p.log = []
  a : r.a = l.length
def Stt (l : List S57) (x : MS) (r : R5) : Prop := Opn l x r ∨ Sht l x r
theorem Stt.log (h : Stt l x r) (h40 : l.length ≤ 40) : x.p.log.length ≤ 99999 := by
  rcases h with h | h
  · have := h.g
    have := h.na
    have := h.a1
    omega
  · rw [h.g]
    exact Nat.zero_le _
theorem Stt.facts (h : Stt l x r) : x.steps = r.n ∧ x.p.note = r.n ∧ 0 ≤ r.a ∧ r.a ≤ l.length := by
  rcases h with h | h
  · exact ⟨h.s, h.n, h.a0, h.a1⟩
  · exact ⟨h.s, h.n, by rw [h.a]; omega, Int.le_of_eq h.a⟩
theorem Stt.at (h : Stt l x r) (m : M) : Stt l (x.at m) r := h.elim (fun h => Or.inl ⟨h.e, h.ld, h.o, h.s, h.n, h.g, h.a0, h.a1, h.na, h.f⟩) (fun h => Or.inr ⟨h.e, h.o, h.s, h.n, h.g, h.a⟩)
/-- A step of a machine that has asks left. -/
theorem stt_open (h40 : l.length ≤ 40) (h : Stt l x r) (hr : r.a < l.length) :
    (x.step (doesF l)).p.m = (askOf (rd_T57 l r.a) r.t x.p.m).1 ∧ Stt l (x.step (doesF l)) (goOn l r (askOf (rd_T57 l r.a) r.t x.p.m).2) ∧ (x.step (doesF l)).ended = decide ((l.length : Int) ≤ (goOn l r (askOf (rd_T57 l r.a) r.t x.p.m).2).a) := by
  have h : Opn l x r := by
    rcases h with h | h
    · exact h
    · have := h.a
      omega
  obtain ⟨y, hy, y1, y2, y3, y4⟩ := step_does h40 ⟨h.e, h.ld, h.a0, h.a1⟩ hr
  obtain ⟨f1, f2, f3⟩ := goOn_facts h40 (askOf (rd_T57 l r.a) r.t x.p.m).2 h.a0 hr
  rw [hy]
  obtain ⟨r', hr'⟩ : ∃ r', goOn l r (askOf (rd_T57 l r.a) r.t x.p.m).2 = r' := ⟨_, rfl⟩
  rw [hr'] at y2 y4 f1 f2 f3 ⊢
  have hn : r'.n = r.n + 1 := by
    rw [f3]
    have := h.g
    have := h.na
    have := h.a1
    unfold wrap64
    omega
  have hg := h.g
  have hna := h.na
  refine ⟨y1, ?_, ?_⟩
  · split at y4
    · rename_i c
      obtain ⟨⟨q1, q2, q3, q4⟩, q5, q6⟩ := y4
      exact Or.inl ⟨q1, q2, q5.trans h.o, by rw [y3, hn]; omega, y2, by rw [hn]; omega, q3, q4, by omega, Or.inl c⟩
    · rename_i c
      obtain ⟨q1, q2, q3⟩ := y4
      exact Or.inr ⟨q1, q3, by rw [y3, hn]; omega, y2, q2, by omega⟩
  · split at y4
    · rename_i c
      rw [y4.1.1]
      exact (decide_eq_false (by omega)).symm
    · rename_i c
      rw [y4.1]
      exact (decide_eq_true (by omega)).symm
/-- A step of a machine that has none. -/
theorem stt_shut (h : Stt l x r) (hr : ¬ r.a < l.length) : (x.step (doesF l)).p.m = x.p.m ∧ Sht l (x.step (doesF l)) r := by
  rcases h with h | h
  · have h0 : r = r0 := h.f.elim (fun q => absurd q hr) id
    have hl : l.length = 0 := by
      have := h.a1
      rw [h0] at this hr
      simp only [r0] at this hr
      omega
    have hlog : x.p.log = [] := by
      have := h.g
      rw [h0] at this
      simp only [r0] at this
      exact List.eq_nil_of_length_eq_zero (by omega)
    have hs : x.step (doesF l) = MS.after x.out (.ret (.iface 47 (.agg r0.v)) { x.p with at_ := 0, left := 1 }) := by
      unfold MS.step
      rw [if_neg (by rw [h.e]; decide)]
      unfold doesF
      rw [doesN_end (by simp [r0, hl])]
    rw [hs, h0]
    refine ⟨rfl, rfl, rfl, ?_, ?_, rfl, ?_⟩
    · show ((x.p.log.length : Nat) : Int) = _
      rw [hlog]
      rfl
    · show x.p.note = _
      rw [h.n, h0]
    · simp [r0, hl]
  · have hs : x.step (doesF l) = x := by
      unfold MS.step
      rw [if_pos h.e]
    rw [hs]
    exact ⟨rfl, h⟩
/-- An ask of both. -/
theorem goOn_one {m : M} {q : Go.Proofs.Ythgbgflpjggpmaa.RefAlloc.R} (hS : Sim m q) (hf0 : ∀ i, 0 ≤ i → i < (l.length : Int) → 0 ≤ (rd_T57 l i).f0 ∧ (rd_T57 l i).f0 ≤ 255) (h0 : 0 ≤ r.a) (hr : r.a < l.length) :
    goOn l r (askOf (rd_T57 l r.a) r.t m).2 = nextF l r (oneR q (rd_T57 l r.a) r.t).2 ∧ Sim (askOf (rd_T57 l r.a) r.t m).1 (oneR q (rd_T57 l r.a) r.t).1 := by
  have h := sim_one hS (rd_T57 l r.a) (hf0 _ h0 hr) r.t
  exact ⟨by unfold goOn; rw [h.1], h.2⟩
theorem doesF_ret (l : List S57) : ∀ (k : Nat) (r : R5) (s : PS) (y : Value) (s' : PS), doesN l k r s = .ret y s' → y = .nilIface ∨ ∃ T z, y = .iface T z
  | 0, _, _, _, _, h => by cases h
  | k + 1, r, s, y, s', h => by
    unfold doesN at h
    split at h
    · cases e : s.ask (askOf (rd_T57 l r.a) r.t) with
      | out s2 =>
        rw [e] at h
        cases h
      | ret a s2 =>
        rw [e] at h
        exact doesF_ret l k _ _ y s' h
    · injection h with h _
      exact Or.inr ⟨_, _, h.symm⟩
end
section
variable {w w' wl : World} {mb cb lb cap : Nat} {rc : Rec} {m : Mem.M} {l : List S57} {r : R5} {A : Option Addr}
/-- A step, by its contract. -/
theorem step_md (hA : At w mb cb m) (h : Md w mb (fvD lb) rc) (hT : Stt l rc.x r) (hlb : w.heap[lb]? = some (.cells #[.slice A l.length cap] 41 (0, 0))) (hB : Below wl.heap.size wl w) (hS : ∀ k, Sx rc.xb rc.pb mb cb rc.v k → wl.heap.size ≤ k)
    (hR : Kd.C k57 wl A l.length l) (hc : l.length ≤ cap) (h40 : l.length ≤ 40) (hf0 : ∀ i, 0 ≤ i → i < (l.length : Int) → 0 ≤ (rd_T57 l i).f0 ∧ (rd_T57 l i).f0 ≤ 255) :
    Calls Try.prog 13 #[ptr rc.xb] w fun e w' => e = .returned (.bool ((rc.x.at m).step (doesF l)).ended) ∧ ∃ v', At w' mb cb ((rc.x.at m).step (doesF l)).p.m ∧ Md w' mb (fvD lb) ⟨(rc.x.at m).step (doesF l), rc.xb, rc.pb, v'⟩ ∧ Fx (Sx rc.xb rc.pb mb cb rc.v) w w' ∧ ∀ k, v'.ownBlock = some k → Sx rc.xb rc.pb mb cb rc.v k ∨ w.heap.size ≤ k := by
  refine (step_calls (F := doesF l) (h.mc hA) (hT.log h40) (fun s x s' e => doesF_ret l _ _ _ _ _ e) (fun W => enters_ Try.func38 (by kernel_rfl) rfl _ W) (fun W hF hs => ?_)).mono ?_
  · have hnf : ¬ Sf rc.pb mb cb rc.v lb := fun e => (h.zt hA (Or.inr e)).ne hlb (by decide) rfl
    exact does_calls hs (Or.inr (Or.inl rfl)) (hB.trans (hF.to_below hB.size (fun k hk => hS k (Or.inr hk)))) (fun k hk => hS k (Or.inr hk)) hR hc h40 ((hF.block lb (blk_lt hlb) hnf).trans hlb) hnf hf0
  · rintro e w' ⟨rfl, v', h'⟩
    exact ⟨rfl, v', h'.P.A, md_of h', h'.P.F, h'.P.sv⟩
end
end Go.Proofs.Ythgbgflpjggpmaa.Mem
namespace Go.Proofs.Ythgbgflpjggpmaa.Mem
open Go.RowKit Go.Proofs.YthgbgflpjggpmaaW.PrintWords Go.Proofs.YthgbgflpjggpmaaW.PrintLast Go.Proofs.Ythgbgflpjggpmaa.Tags
open Go.Proofs.Ythgbgflpjggpmaa.PStepAlone (S57 k57 z57 rd_T57 rundleref12_New.f rundleref12_New.calls z108)
open Go.Proofs.Ythgbgflpjggpmaa.RefAlloc
set_option linter.unusedVariables false
set_option linter.unusedSimpArgs false
theorem rnew_calls (n : Nat) (w : World) (h1 : 1 ≤ n) (h2 : n ≤ 65535) : Calls Try.prog 19 #[.int .i64 n] w fun e w' => ∃ g c, e = .returned (agg4 (.slice (some ⟨g, 0, none⟩) n c) 0 0 0) ∧ RV w' w.heap.size (agg4 (.slice (some ⟨g, 0, none⟩) n c) 0 0 0) ⟨List.replicate n z108, 0, 0, 0⟩ ∧ Below w.heap.size w w' := by
  have hf : rundleref12_New.f (n : Int) = some (List.replicate n z108, 0, 0, 0) := by
    unfold rundleref12_New.f
    rw [if_pos (by omega), if_pos (by rw [Int.toNat_natCast]; omega), Int.toNat_natCast]
  refine (rundleref12_New.calls n _ _ _ _ w hf).mono ?_
  rintro e w' ⟨v, rfl, h3, h4⟩
  have hR := RV.ofR (c := 0) (lv := 0) (st := 0) (by simpa using h2) (by simp; omega) h3
  obtain ⟨g, cap, tl, e, _⟩ := hR.open
  injection e with e
  have e' : v = .slice (some ⟨g, 0, none⟩) n cap := by simpa using e
  subst e'
  exact ⟨g, cap, rfl, hR, h4⟩
end Go.Proofs.Ythgbgflpjggpmaa.Mem
namespace Go.Proofs.Ythgbgflpjggpmaa.Mem
open Go.RowKit Go.Proofs.YthgbgflpjggpmaaW.PrintWords Go.Proofs.YthgbgflpjggpmaaW.PrintLast Go.Proofs.Ythgbgflpjggpmaa.Tags
open Go.Proofs.Ythgbgflpjggpmaa.PStepAlone (S57 k57 z57 rd_T57 z108)
open Go.Proofs.Ythgbgflpjggpmaa.RefAlloc
set_option linter.unusedVariables false
set_option linter.unusedSimpArgs false
/-- Blocks that a machine's step doesn't write. -/
def Oq (w w' : World) : Prop := ∀ (k : Nat) (t : TypeId) (cs : Array Value), w.heap[k]? = some (Obj.cells cs t (0, 0)) → t ≠ 74 ∧ t ≠ 72 ∧ t ≠ 67 ∧ t ≠ 96 ∧ t ≠ 76 → w'.heap[k]? = some (Obj.cells cs t (0, 0))
/-- Between steps. -/
structure Al (w0 : World) (mb cb mo co lb xb pb n cap : Nat) (A : Option Addr) (l : List S57) (w : World) (x : MS) (v : Value) (r : R5) : Prop where
  Am : At w mb cb x.p.m
  Ao : At w mo co (M.new n)
  D : Md w mb (fvD lb) ⟨x, xb, pb, v⟩
  H : w.heap[lb]? = some (.cells #[.slice A l.length cap] 41 (0, 0))
  T : Stt l x r
  B : Below w0.heap.size w0 w
  E : doesF l ⟨M.new n, [], 0, -1, 0⟩ = doesN l (l.length + 1) r ⟨x.p.m, [], 0, -1, r.n⟩
  bs : w0.heap.size ≤ mb ∧ w0.heap.size ≤ cb ∧ w0.heap.size ≤ mo ∧ w0.heap.size ≤ co ∧ w0.heap.size ≤ xb ∧ w0.heap.size ≤ pb ∧ ∀ k, v.ownBlock = some k → w0.heap.size ≤ k
  ne : mo ≠ mb ∧ co ≠ cb
section
variable {w0 w w' : World} {mb cb mo co lb xb pb n cap : Nat} {A : Option Addr} {l : List S57} {x : MS} {v : Value} {r : R5} {q : R}
theorem Al.kq (h : Al w0 mb cb mo co lb xb pb n cap A l w x v r) (hq : Kq w w') (hB : Below w0.heap.size w0 w') : Al w0 mb cb mo co lb xb pb n cap A l w' x v r :=
  ⟨h.Am.kq hq, h.Ao.kq hq, h.D.kq hq, hq _ _ _ h.H (by decide), h.T, hB, h.E, h.bs, h.ne⟩
theorem Al.below (h : Al w0 mb cb mo co lb xb pb n cap A l w x v r) (hb : Below w.heap.size w w') : Al w0 mb cb mo co lb xb pb n cap A l w' x v r :=
  h.kq (Kq.of_below hb) (below_then h.B h.B.size hb)
theorem Al.only (h : Al w0 mb cb mo co lb xb pb n cap A l w x v r) {b : Nat} {cs : Array Value} {t : TypeId} (k : Only w w' b) (hg : w.heap[b]? = some (.cells cs t (0, 0))) (ht : t ≠ 74 ∧ t ≠ 72 ∧ t ≠ 67 ∧ t ≠ 96 ∧ t ≠ 76 ∧ t ≠ 41) (hb : w0.heap.size ≤ b) : Al w0 mb cb mo co lb xb pb n cap A l w' x v r := by
  obtain ⟨t1, t2, t3, t4, t5, t6⟩ := ht
  refine ⟨h.Am.only k (Ne.symm (blk_ne hg h.Am.hm t3)) (Ne.symm (blk_ne hg h.Am.hc t4)), h.Ao.only k (Ne.symm (blk_ne hg h.Ao.hm t3)) (Ne.symm (blk_ne hg h.Ao.hc t4)), h.D.of_blocks fun i cs' t' hi ht' => k.block i ?_, (k.block lb (Ne.symm (blk_ne hg h.H t6))).trans h.H, h.T, ⟨k.os.trans h.B.os, k.tape.trans h.B.tape, k.output.trans h.B.output, Nat.le_trans h.B.size (Nat.le_of_eq k.size.symm), fun i hi => (k.block i (by omega)).trans (h.B.block i hi)⟩, h.E, h.bs, h.ne⟩
  rintro rfl
  rw [hg] at hi
  injection hi with hi
  injection hi with _ hi
  subst hi
  rcases ht' with e | e | e
  · exact t1 e
  · exact t2 e
  · exact t5 e
theorem does_next (h40 : l.length ≤ 40) {m : M} {k : Int} (h0 : 0 ≤ r.a) (hr : r.a < l.length) : doesN l (l.length + 1) r ⟨m, [], 0, -1, k⟩ = doesN l (l.length + 1) (goOn l r (askOf (rd_T57 l r.a) r.t m).2) ⟨(askOf (rd_T57 l r.a) r.t m).1, [], 0, -1, (goOn l r (askOf (rd_T57 l r.a) r.t m).2).n⟩ := by
  obtain ⟨f1, f2, f3⟩ := goOn_facts h40 (askOf (rd_T57 l r.a) r.t m).2 h0 hr
  rw [doesN_in hr (s1 := ⟨(askOf (rd_T57 l r.a) r.t m).1, [], 0, -1, k⟩) (a := (askOf (rd_T57 l r.a) r.t m).2) rfl]
  exact (doesN_eq l h40 l.length (l.length + 1) _ _ (by omega) f2 (by omega) (by omega)).symm
theorem Al.sx (h : Al w0 mb cb mo co lb xb pb n cap A l w x v r) : ∀ k, Sx xb pb mb cb v k → w0.heap.size ≤ k := by
  obtain ⟨b1, b2, b3, b4, b5, b6, b7⟩ := h.bs
  rintro k (e | e | e | e | e)
  · exact e ▸ b5
  · exact e ▸ b6
  · exact e ▸ b1
  · exact e ▸ b2
  · exact b7 k e
/-- A step of the machine. -/
theorem Al.step (h : Al w0 mb cb mo co lb xb pb n cap A l w x v r) (hS : Sim x.p.m q) (hR : Kd.C k57 w0 A l.length l) (hc : l.length ≤ cap) (h40 : l.length ≤ 40) (hf0 : ∀ i, 0 ≤ i → i < (l.length : Int) → 0 ≤ (rd_T57 l i).f0 ∧ (rd_T57 l i).f0 ≤ 255) {r2 : R5} {q2 : R} {bb : Bool} (hr2 : (r.a < l.length ∧ r2 = nextF l r (oneR q (rd_T57 l r.a) r.t).2 ∧ q2 = (oneR q (rd_T57 l r.a) r.t).1) ∨ (¬ r.a < l.length ∧ r2 = r ∧ q2 = q)) (hbb : bb = decide ((l.length : Int) ≤ r2.a)) :
    Calls Try.prog 13 #[ptr xb] w fun e w' => e = .returned (.bool bb) ∧ ∃ x' v', Al w0 mb cb mo co lb xb pb n cap A l w' x' v' r2 ∧ Sim x'.p.m q2 ∧ (bb = true → Sht l x' r2) ∧ x'.ended = bb ∧ (¬ r.a < l.length → x'.p.m = x.p.m) ∧ Oq w w' := by
  refine (step_md h.Am h.D h.T h.H h.B h.sx hR hc h40 hf0).mono ?_
  show ∀ (e : Ending) (w' : World), (e = Ending.returned (.bool (x.step (doesF l)).ended) ∧ ∃ v', At w' mb cb (x.step (doesF l)).p.m ∧ Md w' mb (fvD lb) ⟨x.step (doesF l), xb, pb, v'⟩ ∧ Fx (Sx xb pb mb cb v) w w' ∧ ∀ k, v'.ownBlock = some k → Sx xb pb mb cb v k ∨ w.heap.size ≤ k) → _
  rintro e w' ⟨rfl, v', hA', hD', hF', hv'⟩
  obtain ⟨e1, e2, e3, e4, e5⟩ : (x.step (doesF l)).ended = bb ∧ Stt l (x.step (doesF l)) r2 ∧ Sim (x.step (doesF l)).p.m q2 ∧ doesF l ⟨M.new n, [], 0, -1, 0⟩ = doesN l (l.length + 1) r2 ⟨(x.step (doesF l)).p.m, [], 0, -1, r2.n⟩ ∧ (¬ r.a < l.length → (x.step (doesF l)).p.m = x.p.m) := by
    rcases hr2 with ⟨hr, rfl, rfl⟩ | ⟨hr, rfl, rfl⟩
    · obtain ⟨a1, a2, a3⟩ := stt_open h40 h.T hr
      obtain ⟨g1, g2⟩ := goOn_one hS hf0 h.T.facts.2.2.1 hr
      rw [g1] at a2 a3
      refine ⟨a3.trans hbb.symm, a2, by rw [a1]; exact g2, ?_, fun c => absurd hr c⟩
      rw [h.E, does_next h40 h.T.facts.2.2.1 hr, g1, a1]
    · obtain ⟨a1, a2⟩ := stt_shut h.T hr
      refine ⟨?_, Or.inr a2, by rw [a1]; exact hS, by rw [a1]; exact h.E, fun _ => a1⟩
      rw [a2.e, hbb]
      exact (decide_eq_true (by omega)).symm
  have hO : Oq w w' := fun k t cs hk ht => (hF'.block k (blk_lt hk) (fun e => (h.D.zt h.Am e).ne hk ht rfl)).trans hk
  obtain ⟨b1, b2, b3, b4, b5, b6, b7⟩ := h.bs
  have hmo : w'.heap[mo]? = w.heap[mo]? := by
    refine hF'.block mo (blk_lt h.Ao.hm) ?_
    rintro (e | e | e | e | e)
    · exact blk_ne h.Ao.hm h.D.M (by decide) e
    · exact blk_ne h.Ao.hm h.D.P (by decide) e
    · exact h.ne.1 e
    · exact blk_ne h.Ao.hm h.Am.hc (by decide) e
    · exact h.D.L.ne h.Ao.hm (by decide) e.symm
  have hco : w'.heap[co]? = w.heap[co]? := by
    refine hF'.block co (blk_lt h.Ao.hc) ?_
    rintro (e | e | e | e | e)
    · exact blk_ne h.Ao.hc h.D.M (by decide) e
    · exact blk_ne h.Ao.hc h.D.P (by decide) e
    · exact blk_ne h.Ao.hc h.Am.hm (by decide) e
    · exact h.ne.2 e
    · exact h.D.L.ne h.Ao.hc (by decide) e.symm
  refine ⟨by rw [e1], _, v', ⟨hA', h.Ao.of_blocks hmo hco, hD', hO _ _ _ h.H (by decide), e2, h.B.trans (hF'.to_below h.B.size h.sx), e4, ⟨b1, b2, b3, b4, b5, b6, fun k hk => ?_⟩, h.ne⟩, e3, fun hb => ?_, e1, e5, hO⟩
  · rcases hv' k hk with e | e
    · exact h.sx k e
    · exact Nat.le_trans h.B.size e
  · rcases e2 with q | q
    · exact absurd (q.e.symm.trans (e1.trans hb)) (by decide)
    · exact q
end
end Go.Proofs.Ythgbgflpjggpmaa.Mem
