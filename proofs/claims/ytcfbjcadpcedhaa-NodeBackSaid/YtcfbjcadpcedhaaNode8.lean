/- A range over a chain of ages: the law of the statement. -/
import Derived.Test.YtcfbjcadpcedhaaNode7
namespace Go.Proofs.Ytcfbjcadpcedhaa.Mem
open Go.RowKit Go.Proofs.YtcfbjcadpcedhaaW.PrintWords Go.Proofs.YtcfbjcadpcedhaaW.PrintLast Go.Proofs.Ytcfbjcadpcedhaa.Tags
set_option linter.unusedVariables false
set_option linter.unusedSimpArgs false
section
variable {w0 w w' : World} {pb mb cb : Nat} {m m' : M}
theorem only_putObj (W : World) (l : Nat) (o : Obj) : Only W (W.putObj l o) l := ⟨rfl, rfl, rfl, by simp [World.putObj], fun k hk => World.putObj_heap_other hk⟩
theorem St.only_ (h : St w0 w pb mb cb m) {b : Nat} (ho : Only w w' b) (n1 : mb ≠ b) (n2 : cb ≠ b) (n3 : pb ≠ b) (hb : w0.heap.size ≤ b) : St w0 w' pb mb cb m := ⟨h.A.only ho n1 n2, (ho.block pb n3).trans h.P, h.F.only ho hb⟩
/-- How the body of a round may be left. -/
def bPost (w0 : World) (pb mb cb : Nat) (stop : Bool) (JxW : World → Prop) (m1 : M) (L D : Nat) (W2 : World) : Exit → Go.Act → World → Prop
  | .normal, _, W3 => stop = false ∧ Below W2.heap.size W2 W3
  | .ret, _, W3 => stop = true ∧ JxW W3 ∧ St w0 W3 pb mb cb m1 ∧ W3.heap[L]? = W2.heap[L]? ∧ W3.heap[D]? = W2.heap[D]?
  | _, _, _ => False
set_option maxHeartbeats 3200000 in
theorem range_ages {g : Operand} {ps : Array Tmp} {assign body : Code} {Q : Exit → Go.Act → World → Prop} {a : Go.Act} {WL : World} (n : Nat) (hn : 10 ≤ n) {bH bP bE : Nat} {eb : Addr} {h : Int} {l : List (Int × Ag)}
    (hg : a.eval g = .func (Fn.func 68) #[] #[.pointer (some ⟨bH, 0, none⟩), .pointer (some ⟨bP, 0, none⟩), .pointer (some ⟨bE, 0, none⟩)]) (hps : ps.size = 2)
    (hS : St w0 WL pb mb cb m) (hc : Chain m h l) (kH : WL.heap[bH]? = some (.cells #[.int .i64 h] 3 (0, 0))) (kP : WL.heap[bP]? = some (.cells #[ptr pb] 29 (0, 0))) (kE : WL.heap[bE]? = some (.cells #[.pointer (some eb)] 93 (0, 0)))
    (stop : Ag → Bool) (Jx : Ag → World → Prop) (hJx : ∀ x W W' b, Jx x W → WL.heap.size ≤ b → Only W W' b → Jx x W')
    (hround : ∀ (x : Int × Ag) (W : World) (m1 : M), x ∈ l → St w0 W pb mb cb m1 → Fr WL W mb cb → WL.heap.size + 2 ≤ W.heap.size → assign.wpIn (Fence.wide.inRound (WL.heap.size + 1)) (n - 1 - 1) Try.prog (Exit.then (fun a₁ W₁ => Below W.heap.size W W₁ ∧ ∀ W₂, Only W₁ W₂ (WL.heap.size + 1) → body.wpIn (Fence.wide.inRound (WL.heap.size + 1)) (n - 1 - 1) Try.prog (bPost w0 pb mb cb (stop x.2) (Jx x.2) m1 (WL.heap.size + 1) WL.heap.size W₂) a₁ W₂) (fun _ _ _ => False))
      { tmps := (ps.zip #[.int .i64 x.1, x.2.v]).foldl (fun t (p, v) => t.setIfInBounds p v) a.tmps, defers := [] } W)
    (hdone : ∀ m' W, Like m' m → St w0 W pb mb cb m' → Fr WL W mb cb → (∀ x ∈ l, stop x.2 = false) → W.heap[WL.heap.size]? = some (.deferred (some [])) → Q .normal { a with defers := { target := .collected WL.heap.size, args := #[] } :: a.defers } W)
    (hstop : ∀ m' W l1 x l2, Like m' m → St w0 W pb mb cb m' → l = l1 ++ x :: l2 → (∀ y ∈ l1, stop y.2 = false) → stop x.2 = true → Jx x.2 W → W.heap[WL.heap.size]? = some (.deferred (some [])) → Code.ret.wpIn Fence.wide n Try.prog Q { a with defers := { target := .collected WL.heap.size, args := #[] } :: a.defers } W) :
    (Code.rangeFunc g ps assign body).wpIn Fence.wide n Try.prog Q a WL := by
  have lm := hS.lt_mb
  have lc := hS.lt_cb
  have lp := hS.lt_pb
  have l0 : w0.heap.size ≤ WL.heap.size := hS.F.size
  refine wpIn_rangeFunc ?_
  intro fn hfn
  obtain ⟨rec, hrec⟩ : ∃ rec : LoopState → Option Code → Loop, rec = fun st pe => { state := st, pending := pe, fn, tmps := a.tmps, params := ps, assign, body, defers := WL.heap.size } := ⟨_, rfl⟩
  obtain ⟨W1, hW1⟩ : ∃ W1, (WL.alloc (.deferred (some []))).alloc (.loop (rec .ready none)) = W1 := ⟨_, rfl⟩
  have hL1 : W1.heap[WL.heap.size + 1]? = some (.loop (rec .ready none)) := by
    rw [← hW1]; have := World.alloc_heap_new (WL.alloc (.deferred (some []))) (.loop (rec .ready none)); rwa [World.size_alloc] at this
  have hK1 : W1.heap[WL.heap.size]? = some (.deferred (some [])) := by
    rw [← hW1]; exact (Below.heap_alloc _ _ _ (by simp)).trans (World.alloc_heap_new WL _)
  have hb1 : Below WL.heap.size WL W1 := by
    rw [← hW1]; exact ((Below.refl _ WL).alloc (Nat.le_refl _) _).alloc (by simp) _
  have hz1 : W1.heap.size = WL.heap.size + 2 := by rw [← hW1]; simp
  refine ⟨WL.heap.size + 1, [{ target := .collected WL.heap.size, args := #[] }], W1, { target := .fn (.func 68) #[.pointer (some ⟨bH, 0, none⟩), .pointer (some ⟨bP, 0, none⟩), .pointer (some ⟨bE, 0, none⟩)], args := #[.func (.yield (WL.heap.size + 1)) #[] #[]] }, W1, 68,
    #[.func (.yield (WL.heap.size + 1)) #[] #[]] ++ #[.pointer (some ⟨bH, 0, none⟩), .pointer (some ⟨bP, 0, none⟩), .pointer (some ⟨bE, 0, none⟩)], W1, ?_, ?_, ?_, ?_, fun _ => by omega, ?_⟩
  · rw [← hW1, hrec]; exact run_enterLoop_outer _ _ _ _ _
  · simp only [resolve, hg]
    simp [go_sem]
  · intro f' hf'; trivial
  · have eg := enters_ Try.func68 (by kernel_rfl) rfl
    simp [invoke, go_sem, eg]
  · refine (ages1_in (n - 1) (by omega) (hS.below hb1) hc (blk_below kH hb1) (blk_below kP hb1) (blk_below kE hb1) ⟨_, hL1⟩ stop
      (fun W => Fr WL W mb cb ∧ W.heap[WL.heap.size + 1]? = some (.loop (rec .ready none)) ∧ W.heap[WL.heap.size]? = some (.deferred (some [])))
      (fun x W => Jx x W ∧ W.heap[WL.heap.size + 1]? = some (.loop (rec .done (some .ret))) ∧ W.heap[WL.heap.size]? = some (.deferred (some [])))
      ⟨Fr.of_below hb1 mb cb, hL1, hK1⟩ ?_ ?_).mono ?_
    · rintro W W' ⟨h1, h2, h3⟩ hF
      exact ⟨h1.trans hF, (hF.block _ (blk_lt h2) (by omega) (by omega)).trans h2, (hF.block _ (blk_lt h3) (by omega) (by omega)).trans h3⟩
    · rintro x W m1 hx ⟨hF, hl, hk⟩ hSW
      have hlt : WL.heap.size + 1 < W.heap.size := blk_lt hl
      have hy := run_yield (P := Try.prog) (args := #[.int .i64 x.1, x.2.v]) hl (by rw [hrec]; simp [hps])
      rw [hrec] at hy
      refine ⟨fn, _, assign, body, hy, roundIn_of_wpIn trivial ?_⟩
      refine wpIn_mono (hround x W m1 hx hSW hF (by omega)) ?_
      intro e a1 W2 hp
      cases e with
      | normal =>
        obtain ⟨hB, hbody⟩ := hp
        have hl2 := (hB.block _ hlt).trans hl
        have hk2 := (hB.block _ (blk_lt hk)).trans hk
        have hlt2 : WL.heap.size + 1 < W2.heap.size := blk_lt hl2
        have hbr := run_beginRound (P := Try.prog) hl2 (by rw [hrec])
        have ho := only_putObj W2 (WL.heap.size + 1) (.loop { rec .ready none with state := .busy })
        have hl3 := World.putObj_heap_same (o := .loop { rec .ready none with state := .busy }) hlt2
        obtain ⟨W2', hW2'⟩ : ∃ W2', W2.putObj (WL.heap.size + 1) (.loop { rec .ready none with state := .busy }) = W2' := ⟨_, rfl⟩
        rw [hW2'] at ho hl3 hbr
        clear hW2'
        have hk3 := (ho.block WL.heap.size (by omega)).trans hk2
        refine ⟨_, hbr, wpIn_mono (hbody _ ho) ?_⟩
        intro e3 a3 W3 hp3
        cases e3 with
        | normal =>
          obtain ⟨hs, hB3⟩ := hp3
          have hl4 := (hB3.block _ (blk_lt hl3)).trans hl3
          have hk4 := (hB3.block _ (blk_lt hk3)).trans hk3
          have ho4 := only_putObj W3 (WL.heap.size + 1) (.loop (rec .ready none))
          have hend := run_endRound (P := Try.prog) none hl4
          have hend2 : (Instr.endRound (WL.heap.size + 1) none).run Try.prog W3 = .ok (.bool true) (W3.putObj (WL.heap.size + 1) (.loop (rec .ready none))) := by
            rw [hend, hrec]; rfl
          have hs2 : W.heap.size ≤ W2.heap.size := hB.size
          have hs3 : W2'.heap.size ≤ W3.heap.size := hB3.size
          have e2 : W2'.heap.size = W2.heap.size := ho.size
          have FF : Fr WL (W3.putObj (WL.heap.size + 1) (.loop (rec .ready none))) mb cb := (((hF.below hB).only ho (by omega)).below hB3).only ho4 (by omega)
          have SS := ((((hSW.below hB).only_ ho (by omega) (by omega) (by omega) (by omega)).below hB3).only_ ho4 (by omega) (by omega) (by omega) (by omega))
          refine ⟨_, _, hend2, Or.inl ⟨hs, rfl, ⟨FF, World.putObj_heap_same (blk_lt hl4), (ho4.block _ (by omega)).trans hk4⟩, SS, ⟨?_, ?_, ?_, ?_, ?_, _, World.putObj_heap_same (blk_lt hl4)⟩⟩⟩
          · exact ho4.os.trans (hB3.os.trans (ho.os.trans hB.os))
          · exact ho4.tape.trans (hB3.tape.trans (ho.tape.trans hB.tape))
          · exact ho4.output.trans (hB3.output.trans (ho.output.trans hB.output))
          · rw [ho4.size]; omega
          · intro k hk hne
            rw [ho4.block k hne, hB3.block k (by omega), ho.block k hne, hB.block k hk]
        | ret =>
          obtain ⟨hs, hj, hS3, e1, e2⟩ := hp3
          have hl4 := e1.trans hl3
          have hk4 := e2.trans hk3
          have ho4 := only_putObj W3 (WL.heap.size + 1) (.loop (rec .done (some .ret)))
          have hend := run_endRound (P := Try.prog) (some .ret) hl4
          have hend2 : (Instr.endRound (WL.heap.size + 1) (some .ret)).run Try.prog W3 = .ok (.bool false) (W3.putObj (WL.heap.size + 1) (.loop (rec .done (some .ret)))) := by
            rw [hend, hrec]; rfl
          exact ⟨_, _, hend2, Or.inr ⟨hs, rfl, ⟨hJx _ _ _ _ hj (by omega) ho4, World.putObj_heap_same (blk_lt hl4), (ho4.block _ (by omega)).trans hk4⟩, hS3.only_ ho4 (by omega) (by omega) (by omega) (by omega)⟩⟩
        | exit id => exact hp3.elim
        | goto t => exact hp3.elim
        | panic c => exact hp3.elim
        | outgrown => exact hp3.elim
      | ret => exact hp.elim
      | exit id => exact hp.elim
      | goto t => exact hp.elim
      | panic c => exact hp.elim
      | outgrown => exact hp.elim
    · rintro e W ⟨⟨v, rfl⟩, m', hlk, hSW, ⟨hst, hF, hl, hk⟩ | ⟨l1, x, l2, hll, hst, hs, hj, hl, hk⟩⟩
      · have hend := run_endLoop (P := Try.prog) hl (by rw [hrec]; intro e; cases e)
        obtain ⟨W', hW'⟩ : ∃ W', W.putObj (WL.heap.size + 1) (.loop { rec .ready none with state := .exhausted }) = W' := ⟨_, rfl⟩
        have ho : Only W W' (WL.heap.size + 1) := hW' ▸ only_putObj W (WL.heap.size + 1) _
        rw [hW'] at hend
        clear hW'
        refine ⟨none, W', by rw [hend, hrec], ?_⟩
        exact hdone m' _ hlk (hSW.only_ ho (by omega) (by omega) (by omega) (by omega)) (hF.only ho (by omega)) hst ((ho.block _ (by omega)).trans hk)
      · have hend := run_endLoop (P := Try.prog) hl (by rw [hrec]; intro e; cases e)
        obtain ⟨W', hW'⟩ : ∃ W', W.putObj (WL.heap.size + 1) (.loop { rec .done (some .ret) with state := .exhausted }) = W' := ⟨_, rfl⟩
        have ho : Only W W' (WL.heap.size + 1) := hW' ▸ only_putObj W (WL.heap.size + 1) _
        rw [hW'] at hend
        clear hW'
        refine ⟨some .ret, W', by rw [hend, hrec], ?_⟩
        exact hstop m' _ l1 x l2 hlk (hSW.only_ ho (by omega) (by omega) (by omega) (by omega)) hll hst hs (hJx _ _ _ _ hj (by omega) ho) ((ho.block _ (by omega)).trans hk)
end
end Go.Proofs.Ytcfbjcadpcedhaa.Mem
