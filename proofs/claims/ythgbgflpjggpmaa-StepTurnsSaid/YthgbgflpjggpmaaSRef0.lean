/- An act, of the program and of the document's memory: what lies apart stays as it is. Plain lemmas on worlds. -/
import Derived.Test.YthgbgflpjggpmaaSSim
import Derived.Test.YthgbgflpjggpmaaStepOne
namespace Go.Proofs.Ythgbgflpjggpmaa.Mem
open Go.RowKit Go.Proofs.YthgbgflpjggpmaaW.PrintWords Go.Proofs.Ythgbgflpjggpmaa.Tags Go.Proofs.Ythgbgflpjggpmaa.PStepAlone
open Go.Proofs.Ythgbgflpjggpmaa.RefAlloc
set_option linter.unusedVariables false
set_option linter.unusedSimpArgs false
section
variable {w w' w0 : World} {mb cb B b : Nat} {m : M} {x v : Value} {r : R}
theorem Below.only (h : Below B w0 w) (k : Only w w' b) (hb : B ≤ b) : Below B w0 w' := ⟨k.os.trans h.os, k.tape.trans h.tape, k.output.trans h.output, by rw [k.size]; exact h.size, fun i hi => (k.block i (by omega)).trans (h.block i hi)⟩
end
end Go.Proofs.Ythgbgflpjggpmaa.Mem
namespace Go.Proofs.Ythgbgflpjggpmaa.RefAlloc
open Go.RowKit Go.Proofs.YthgbgflpjggpmaaW.PrintWords Go.Proofs.Ythgbgflpjggpmaa.PStepAlone
open Go.Proofs.Ythgbgflpjggpmaa.Mem (At Fr M Only)
section
variable {w w' w0 : World} {mb cb B b : Nat} {m : M} {x v : Value} {r : R}
theorem RV.typed (h : RV w B x r) {k : Nat} (hk : some k = (RV.own x).ownBlock) : ∃ cells, w.heap[k]? = some (.cells cells 108 (0, 0)) := by
  obtain ⟨_, _, v, rfl, h4⟩ := h
  exact own_typed h4 k hk.symm
theorem RV.ne (h : RV w B x r) {k : Nat} {t : TypeId} {cs : Array Value} (hg : w.heap[k]? = some (.cells cs t (0, 0))) (ht : t ≠ 108) : ¬ some k = (RV.own x).ownBlock := by
  intro e
  obtain ⟨cells, hc⟩ := h.typed e
  rw [hg] at hc
  injection hc with hc
  injection hc with _ hc
  exact ht hc
theorem RV.keep (h : RV w B x r) (hm : ∀ k, some k = (RV.own x).ownBlock → w'.heap[k]? = w.heap[k]?) : RV w' B x r := by
  obtain ⟨h1, h2, v, rfl, h4⟩ := h
  exact ⟨h1, h2, v, rfl, own_move h4 (fun k hk => hm k hk.symm)⟩
theorem RV.fr (h : RV w B x r) (hA : At w mb cb m) (hF : Fr w w' mb cb) : RV w' B x r := h.keep fun k hk => by
  obtain ⟨cells, hc⟩ := h.typed hk
  refine hF.block k (blk_lt hc) ?_ ?_
  · rintro rfl
    exact h.ne hA.hm (by decide) hk
  · rintro rfl
    exact h.ne hA.hc (by decide) hk
theorem RV.only (h : RV w B x r) (k : Only w w' b) {t : TypeId} {cs : Array Value} (hg : w.heap[b]? = some (.cells cs t (0, 0))) (ht : t ≠ 108) : RV w' B x r := h.keep fun i hi => k.block i (by rintro rfl; exact h.ne hg ht hi)
/-- What a block that isn't the document's row is behind a call of the document's. -/
theorem RS.blk (hS : RS w0 w w' (RV.own x)) (h : RV w B x r) {k : Nat} {t : TypeId} {cs : Array Value} (hg : w.heap[k]? = some (.cells cs t (0, 0))) (ht : t ≠ 108) : w'.heap[k]? = some (.cells cs t (0, 0)) := (hS.2.2 k (blk_lt hg) (h.ne hg ht)).trans hg
theorem RS.at_ (hS : RS w0 w w' (RV.own x)) (h : RV w B x r) (hA : At w mb cb m) : At w' mb cb m := ⟨hS.blk h hA.hm (by decide), hS.blk h hA.hc (by decide), hA.len, hA.ok⟩
theorem RS.of_below (hB : Below w0.heap.size w0 w) (hb : Below w.heap.size w w') (v : Value) : RS w0 w w' v := ⟨below_then hB hB.size hb, Kept.of_below hb _⟩
end
end Go.Proofs.Ythgbgflpjggpmaa.RefAlloc
namespace Go.Proofs.Ythgbgflpjggpmaa.Mem
open Go.RowKit Go.Proofs.YthgbgflpjggpmaaW.PrintWords Go.Proofs.Ythgbgflpjggpmaa.Tags Go.Proofs.Ythgbgflpjggpmaa.PStepAlone
open Go.Proofs.Ythgbgflpjggpmaa.RefAlloc
section
variable {w w' w0 : World} {mb cb B b : Nat} {m : M} {x v : Value} {r : R}
/-- The document's Alloc, by its contract. -/
theorem ralloc_calls (hB : Below w0.heap.size w0 w) (h : RV w w0.heap.size x r) (hg : ∀ i, i < r.l.length → 0 ≤ (r.at i).f2) (k n : Int) : Calls Try.prog 41 #[x, .int .i64 k, .int .i64 n] w fun e w' => ∃ x', e = .returned (.tuple #[x', .int .i64 (R.alloc r k n).2.1, .int .i64 (R.alloc r k n).2.2]) ∧ RV w' w0.heap.size x' (R.alloc r k n).1 ∧ RS w0 w w' (RV.own x) := by
  have h' := h
  obtain ⟨g, cap, tl, rfl, hbg, hgg, hcp, hcm, hlt⟩ := h.open
  have hlen := h.1
  have hpos := h.2.1
  obtain ⟨l, c, lv, st⟩ := r
  simp only at hgg hcp hlt hlen hpos hg ⊢
  have hC : Kd.C k108 w (some ⟨g, 0, none⟩) l.length l := (Kd.R_reads' (R_of_own (own_of_blk5 (base := w0.heap.size) (rowR_len l) hbg hgg hcp hcm hlt) (fun _ _ => trivial) : Kd.R k108 108 w w0.heap.size (fun _ => True) (.slice (some ⟨g, 0, none⟩) l.length cap) l)).2.2
  unfold R.alloc
  cases hr : R.room ⟨l, c, lv, st⟩ with
  | none =>
    have hf : ∀ i, i < l.length → may (l.getD i z108) = false := by
      intro i hi
      unfold R.room at hr
      rw [List.findIdx?_eq_none_iff] at hr
      rw [List.getD_eq_getElem?_getD, List.getElem?_eq_getElem hi]
      exact hr _ (List.getElem_mem hi)
    refine (full (some ⟨g, 0, none⟩) cap l c lv st k n w hC hlen hf).mono ?_
    rintro e w' ⟨rfl, hb⟩
    exact ⟨_, rfl, RV.mk hlen hpos hbg (blk_below hgg hb) hcp hcm hlt, RS.of_below hB hb _⟩
  | some i =>
    unfold R.room at hr
    obtain ⟨h1, h2, h3⟩ := List.findIdx?_eq_some_iff_getElem.1 hr
    have e1 : l.getD i z108 = l[i] := by rw [List.getD_eq_getElem?_getD, List.getElem?_eq_getElem h1]; rfl
    refine (hit (some ⟨g, 0, none⟩) cap l c lv st k n i w hC hlen h1 (by rw [e1]; exact h2) (fun j hj => ?_) (hg i h1)).mono ?_
    · have hj' : j < l.length := Nat.lt_trans hj h1
      rw [List.getD_eq_getElem?_getD, List.getElem?_eq_getElem hj']
      simpa using h3 j hj
    · rintro e w' ⟨v, rfl, ho, hb⟩
      have hpl : (put l i k n).length = l.length := by simp [put]
      exact ⟨_, rfl, ⟨by simp only [hpl]; exact hlen, by simp only [hpl]; exact hpos, v, rfl, by simp only [hpl]; exact own_weaken ho hB.size⟩, RS.of_below hB hb _⟩
theorem Sim.gens (h : Sim m r) : ∀ i, i < r.l.length → 0 ≤ (r.at i).f2 := fun i hi => (h.cell i (by rw [h.len]; exact hi)).2.2.2.1
end
end Go.Proofs.Ythgbgflpjggpmaa.Mem
