/- An act, of the program and of the document's memory: what lies apart stays as it is. Plain lemmas on worlds. -/
import Derived.Test.YthghhkdichbijaaSimMem
namespace Go.Proofs.Ythghhkdichbijaa.Mem
open Go.RowKit Go.Proofs.YthghhkdichbijaaW.PrintWords Go.Proofs.Ythghhkdichbijaa.Tags Go.Proofs.Ythghhkdichbijaa.PMemPlays
open Go.Proofs.Ythghhkdichbijaa.RefAlloc
set_option linter.unusedVariables false
set_option linter.unusedSimpArgs false
section
variable {w w' w0 : World} {mb cb B b : Nat} {m : M} {x v tv : Value} {r : R} {ts : List Int}
/-- One block was written, no other. -/
structure Only (w w' : World) (b : Nat) : Prop where
  os : w'.os = w.os
  tape : w'.tape = w.tape
  output : w'.output = w.output
  size : w'.heap.size = w.heap.size
  block : ∀ k, k ≠ b → w'.heap[k]? = w.heap[k]?
theorem Only.set (w : World) (p : Addr) (u : Value) : Only w (w.setCell p u) p.block := ⟨rfl, rfl, rfl, by simp [World.setCell], fun k hk => Below.heap_setCell w p u k hk⟩
theorem Only.trans {w2 : World} (h : Only w w' b) (k : Only w' w2 b) : Only w w2 b := ⟨k.os.trans h.os, k.tape.trans h.tape, k.output.trans h.output, k.size.trans h.size, fun i hi => (k.block i hi).trans (h.block i hi)⟩
abbrev set4 (w : World) (b : Nat) (v0 v1 v2 v3 : Value) : World := (((w.setCell ⟨b, 0, none⟩ v0).setCell ⟨b, 1, none⟩ v1).setCell ⟨b, 2, none⟩ v2).setCell ⟨b, 3, none⟩ v3
theorem only4 (w : World) (b : Nat) (v0 v1 v2 v3 : Value) : Only w (set4 w b v0 v1 v2 v3) b := (((Only.set w ⟨b, 0, none⟩ v0).trans (Only.set _ ⟨b, 1, none⟩ v1)).trans (Only.set _ ⟨b, 2, none⟩ v2)).trans (Only.set _ ⟨b, 3, none⟩ v3)
theorem blk4 {t : TypeId} {a0 a1 a2 a3 : Value} (h : w.heap[b]? = some (.cells #[a0, a1, a2, a3] t (0, 0))) (v0 v1 v2 v3 : Value) : (set4 w b v0 v1 v2 v3).heap[b]? = some (.cells #[v0, v1, v2, v3] t (0, 0)) :=
  blk_put (blk_put (blk_put (blk_put h 0 v0 rfl) 1 v1 rfl) 2 v2 rfl) 3 v3 rfl
theorem Below.only (h : Below B w0 w) (k : Only w w' b) (hb : B ≤ b) : Below B w0 w' := ⟨k.os.trans h.os, k.tape.trans h.tape, k.output.trans h.output, by rw [k.size]; exact h.size, fun i hi => (k.block i (by omega)).trans (h.block i hi)⟩
theorem At.only (h : At w mb cb m) (k : Only w w' b) (h1 : mb ≠ b) (h2 : cb ≠ b) : At w' mb cb m := h.of_blocks (k.block mb h1) (k.block cb h2)
end
end Go.Proofs.Ythghhkdichbijaa.Mem
namespace Go.Proofs.Ythghhkdichbijaa.RefAlloc
open Go.RowKit Go.Proofs.YthghhkdichbijaaW.PrintWords Go.Proofs.Ythghhkdichbijaa.PMemPlays
open Go.Proofs.Ythghhkdichbijaa.Mem (At Fr M Only OwnI)
section
variable {w w' w0 : World} {mb cb B b : Nat} {m : M} {x v tv : Value} {r : R} {ts : List Int}
theorem RV.typed (h : RV w B x r) {k : Nat} (hk : some k = (RV.own x).ownBlock) : ∃ cells, w.heap[k]? = some (.cells cells 123 (0, 0)) := by
  obtain ⟨_, _, v, rfl, h4⟩ := h
  exact own_typed h4 k hk.symm
theorem RV.ne (h : RV w B x r) {k : Nat} {t : TypeId} {cs : Array Value} (hg : w.heap[k]? = some (.cells cs t (0, 0))) (ht : t ≠ 123) : ¬ some k = (RV.own x).ownBlock := by
  intro e
  obtain ⟨cells, hc⟩ := h.typed e
  rw [hg] at hc
  injection hc with hc
  injection hc with _ hc
  exact ht hc
theorem RV.keep (h : RV w B x r) (hm : ∀ k, some k = (RV.own x).ownBlock → w'.heap[k]? = w.heap[k]?) : RV w' B x r := by
  obtain ⟨h1, h2, v, rfl, h4⟩ := h
  exact ⟨h1, h2, v, rfl, own_move h4 (fun k hk => hm k hk.symm)⟩
theorem RV.fr (h : RV w B x r) (hA : At w mb cb m) (hF : Fr w w' mb cb) : RV w' B x r := h.keep fun k hk => by
  obtain ⟨cells, hc⟩ := h.typed hk
  refine hF.block k (blk_lt hc) ?_ ?_
  · rintro rfl
    exact h.ne hA.hm (by decide) hk
  · rintro rfl
    exact h.ne hA.hc (by decide) hk
theorem RV.only (h : RV w B x r) (k : Only w w' b) {t : TypeId} {cs : Array Value} (hg : w.heap[b]? = some (.cells cs t (0, 0))) (ht : t ≠ 123) : RV w' B x r := h.keep fun i hi => k.block i (by rintro rfl; exact h.ne hg ht hi)
/-- What a block that isn't the document's row is behind a call of the document's. -/
theorem RS.blk (hS : RS w0 w w' (RV.own x)) (h : RV w B x r) {k : Nat} {t : TypeId} {cs : Array Value} (hg : w.heap[k]? = some (.cells cs t (0, 0))) (ht : t ≠ 123) : w'.heap[k]? = some (.cells cs t (0, 0)) := (hS.2.2 k (blk_lt hg) (h.ne hg ht)).trans hg
theorem RS.at_ (hS : RS w0 w w' (RV.own x)) (h : RV w B x r) (hA : At w mb cb m) : At w' mb cb m := ⟨hS.blk h hA.hm (by decide), hS.blk h hA.hc (by decide), hA.len, hA.ok⟩
theorem RS.own_ (hS : RS w0 w w' (RV.own x)) (h : RV w B x r) (hT : OwnI w B tv ts) : OwnI w' B tv ts := hT.move fun k hk => by
  obtain ⟨cells, hc⟩ := own_typed hT k hk
  exact (hS.blk h hc (by decide)).trans hc.symm
theorem RS.of_below (hB : Below w0.heap.size w0 w) (hb : Below w.heap.size w w') (v : Value) : RS w0 w w' v := ⟨below_then hB hB.size hb, Kept.of_below hb _⟩
end
end Go.Proofs.Ythghhkdichbijaa.RefAlloc
namespace Go.Proofs.Ythghhkdichbijaa.Mem
open Go.RowKit Go.Proofs.YthghhkdichbijaaW.PrintWords Go.Proofs.Ythghhkdichbijaa.Tags Go.Proofs.Ythghhkdichbijaa.PMemPlays
open Go.Proofs.Ythghhkdichbijaa.RefAlloc
section
variable {w w' w0 : World} {mb cb B b : Nat} {m : M} {x v tv : Value} {r : R} {ts : List Int}
theorem OwnI.only (h : OwnI w B tv ts) (k : Only w w' b) {t : TypeId} {cs : Array Value} (hg : w.heap[b]? = some (.cells cs t (0, 0))) (ht : t ≠ 3) : OwnI w' B tv ts := h.move fun i hi => k.block i (by rintro rfl; exact h.ne hg ht hi.symm)
/-- A list of whole numbers of one's own, as a row that is read. -/
theorem OwnI.toC {A : Option Addr} {c : Nat} (h : OwnI w B (.slice A ts.length c) ts) : Kd.C (Kd.int .i64) w A ts.length ts ∧ ts.length ≤ c := by
  have h1 : (Kd.int .i64).R 3 w B (fun _ => True) (.slice A ts.length c) ts := Kd.R_of_own (enc := Value.int .i64) (h1 := fun _ => rfl) h (fun _ _ => trivial)
  have h2 := Kd.R_reads' h1
  exact ⟨h2.2.2, h2.2.1⟩
theorem handle_some (d p n m : Int) (raw : Bool) (ts : List Int) : ∃ q, rundlelaw12_handle.f d p n m raw ts = some q := by
  unfold rundlelaw12_handle.f
  by_cases c1 : raw = true
  · rw [if_pos c1]; exact ⟨_, rfl⟩
  · rw [if_neg c1]
    by_cases c2 : (ts.length : Int) = 0
    · rw [if_pos c2]; exact ⟨_, rfl⟩
    · rw [if_neg c2]
      by_cases c3 : p < 0
      · rw [if_pos c3]; exact ⟨_, rfl⟩
      · have e : Int.tmod p ts.length = p % ts.length := Int.tmod_eq_emod_of_nonneg (by omega)
        have h1 := Int.emod_nonneg p (b := (ts.length : Int)) c2
        have h2 := Int.emod_lt_of_pos p (b := (ts.length : Int)) (by omega)
        rw [if_neg c3, e, if_pos h1, if_pos h2]
        exact ⟨_, rfl⟩
/-- The three boxes of an act's function: the document's memory, the act, the result. -/
theorem boxed3 (w : World) (v : Value) (c lv st d p n m : Int) (raw : Bool) : ∃ W, W = ((w.alloc (.cells #[v, .int .i64 c, .int .i64 lv, .int .i64 st] 45)).alloc (.cells #[.int .u8 d, .int .i64 p, .int .i64 n, .int .i64 m, .bool raw] 34)).alloc (.cells #[.slice none 0 0, .int .i64 0, .int .i64 0, .int .i64 0] 45) ∧
    W.heap[w.heap.size]? = some (.cells #[v, .int .i64 c, .int .i64 lv, .int .i64 st] 45 (0, 0)) ∧ W.heap[w.heap.size + 1]? = some (.cells #[.int .u8 d, .int .i64 p, .int .i64 n, .int .i64 m, .bool raw] 34 (0, 0)) ∧ W.heap[w.heap.size + 1 + 1]? = some (.cells #[.slice none 0 0, .int .i64 0, .int .i64 0, .int .i64 0] 45 (0, 0)) ∧ Below w.heap.size w W := by
  refine ⟨_, rfl, blk_alloc (blk_alloc (blk_new _ _) _) _, ?_, ?_, below_alloc (below_alloc (below_alloc (Below.refl _ _) _) _) _⟩
  · have e : w.heap.size + 1 = (w.alloc (.cells #[v, .int .i64 c, .int .i64 lv, .int .i64 st] 45)).heap.size := by simp
    rw [e]
    exact blk_alloc (blk_new _ _) _
  · have e : w.heap.size + 1 + 1 = ((w.alloc (.cells #[v, .int .i64 c, .int .i64 lv, .int .i64 st] 45)).alloc (.cells #[.int .u8 d, .int .i64 p, .int .i64 n, .int .i64 m, .bool raw] 34)).heap.size := by simp
    rw [e]
    exact blk_new _ _
theorem act_box {W : World} {b : Nat} {d p n m : Int} {raw : Bool} (h : W.heap[b]? = some (.cells #[.int .u8 d, .int .i64 p, .int .i64 n, .int .i64 m, .bool raw] 34 (0, 0))) :
    W.cell? ⟨b, 0, none⟩ = some (.int .u8 d) ∧ W.cell? ⟨b, 1, none⟩ = some (.int .i64 p) ∧ W.cell? ⟨b, 2, none⟩ = some (.int .i64 n) ∧ W.cell? ⟨b, 3, none⟩ = some (.int .i64 m) ∧ W.cell? ⟨b, 4, none⟩ = some (.bool raw) := ⟨(blk_cell h 0).trans rfl, (blk_cell h 1).trans rfl, (blk_cell h 2).trans rfl, (blk_cell h 3).trans rfl, (blk_cell h 4).trans rfl⟩
/-- The document's Alloc, by its contract. -/
theorem ralloc_calls (hB : Below w0.heap.size w0 w) (h : RV w w0.heap.size x r) (hg : ∀ i, i < r.l.length → 0 ≤ (r.at i).f2) (k n : Int) : Calls Try.prog 48 #[x, .int .i64 k, .int .i64 n] w fun e w' => ∃ x', e = .returned (.tuple #[x', .int .i64 (R.alloc r k n).2.1, .int .i64 (R.alloc r k n).2.2]) ∧ RV w' w0.heap.size x' (R.alloc r k n).1 ∧ RS w0 w w' (RV.own x) := by
  have h' := h
  obtain ⟨g, cap, tl, rfl, hbg, hgg, hcp, hcm, hlt⟩ := h.open
  have hlen := h.1
  have hpos := h.2.1
  obtain ⟨l, c, lv, st⟩ := r
  simp only at hgg hcp hlt hlen hpos hg ⊢
  have hC : Kd.C k123 w (some ⟨g, 0, none⟩) l.length l := (Kd.R_reads' (R_of_own (own_of_blk5 (base := w0.heap.size) (rowR_len l) hbg hgg hcp hcm hlt) (fun _ _ => trivial) : Kd.R k123 123 w w0.heap.size (fun _ => True) (.slice (some ⟨g, 0, none⟩) l.length cap) l)).2.2
  unfold R.alloc
  cases hr : R.room ⟨l, c, lv, st⟩ with
  | none =>
    have hf : ∀ i, i < l.length → may (l.getD i z123) = false := by
      intro i hi
      unfold R.room at hr
      rw [List.findIdx?_eq_none_iff] at hr
      rw [List.getD_eq_getElem?_getD, List.getElem?_eq_getElem hi]
      exact hr _ (List.getElem_mem hi)
    refine (full (some ⟨g, 0, none⟩) cap l c lv st k n w hC hlen hf).mono ?_
    rintro e w' ⟨rfl, hb⟩
    exact ⟨_, rfl, RV.mk hlen hpos hbg (blk_below hgg hb) hcp hcm hlt, RS.of_below hB hb _⟩
  | some i =>
    unfold R.room at hr
    obtain ⟨h1, h2, h3⟩ := List.findIdx?_eq_some_iff_getElem.1 hr
    have e1 : l.getD i z123 = l[i] := by rw [List.getD_eq_getElem?_getD, List.getElem?_eq_getElem h1]; rfl
    refine (hit (some ⟨g, 0, none⟩) cap l c lv st k n i w hC hlen h1 (by rw [e1]; exact h2) (fun j hj => ?_) (hg i h1)).mono ?_
    · have hj' : j < l.length := Nat.lt_trans hj h1
      rw [List.getD_eq_getElem?_getD, List.getElem?_eq_getElem hj']
      simpa using h3 j hj
    · rintro e w' ⟨v, rfl, ho, hb⟩
      have hpl : (put l i k n).length = l.length := by simp [put]
      exact ⟨_, rfl, ⟨by simp only [hpl]; exact hlen, by simp only [hpl]; exact hpos, v, rfl, by simp only [hpl]; exact own_weaken ho hB.size⟩, RS.of_below hB hb _⟩
theorem Sim.gens (h : Sim m r) : ∀ i, i < r.l.length → 0 ≤ (r.at i).f2 := fun i hi => (h.cell i (by rw [h.len]; exact hi)).2.2.2.1
end
end Go.Proofs.Ythghhkdichbijaa.Mem
