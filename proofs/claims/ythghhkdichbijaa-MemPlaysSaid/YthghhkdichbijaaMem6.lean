/- What is asked of memory, as the laws have it: a row of acts; a variable of one's own that lies in memory. -/
import Derived.Test.YthghhkdichbijaaMem5
import Derived.Test.YthghhkdichbijaaRs
namespace Go.Proofs.Ythghhkdichbijaa.Mem
open Go.RowKit Go.Proofs.YthghhkdichbijaaW.PrintWords Go.Proofs.Ythghhkdichbijaa.Tags Go.ChangeShapes
set_option linter.unusedVariables false
set_option linter.unusedSimpArgs false
section
theorem u8_of {a : Int} (h : (Lit.int .u8 a).wf = true) : 0 ≤ a ∧ a < 256 := by
  have h' : 0 ≤ a ∧ a ≤ 255 := by simpa [Lit.wf, IntKind.min, IntKind.max, IntKind.signed, IntKind.bits] using h
  omega
structure Act where
  d : Int
  p : Int
  n : Int
  m : Int
  raw : Bool
def actKd : Kd Act := Kd.iso (Kd.pair (Kd.int .u8) (Kd.pair (Kd.int .i64) (Kd.pair (Kd.int .i64) (Kd.pair (Kd.int .i64) Kd.bool)))) (fun x => (x.d, x.p, x.n, x.m, x.raw))
def act0 : Act := ⟨0, 0, 0, 0, false⟩
theorem act_at {w : World} {A : Option Addr} {l : List Act} (h : actKd.C w A l.length l) (i : Nat) (hi : i < l.length) : ∃ ad, A = some ad ∧ w.cell? (ad.add (i * 5)) = some (.int .u8 (l.getD i act0).d) ∧ w.cell? (ad.add (i * 5 + 1)) = some (.int .i64 (l.getD i act0).p) ∧
    w.cell? (ad.add (i * 5 + 2)) = some (.int .i64 (l.getD i act0).n) ∧ w.cell? (ad.add (i * 5 + 3)) = some (.int .i64 (l.getD i act0).m) ∧ w.cell? (ad.add (i * 5 + 4)) = some (.bool (l.getD i act0).raw) := by
  obtain ⟨ad, c, e, _, hk, hc⟩ := Kd.C_get h act0 (i : Int) (by omega) (by omega)
  rw [Int.toNat_natCast] at hk hc
  obtain ⟨c0, r0, rfl, k0, c1, r1, rfl, k1, c2, r2, rfl, k2, c3, r3, rfl, k3, k4⟩ := hk
  have e0 : c0 = [.int .u8 (l.getD i act0).d] := k0
  have e1 : c1 = [.int .i64 (l.getD i act0).p] := k1
  have e2 : c2 = [.int .i64 (l.getD i act0).n] := k2
  have e3 : c3 = [.int .i64 (l.getD i act0).m] := k3
  have e4 : r3 = [.bool (l.getD i act0).raw] := k4
  subst e0 e1 e2 e3 e4
  exact ⟨ad, e, hc 0 _ rfl, hc 1 _ rfl, hc 2 _ rfl, hc 3 _ rfl, hc 4 _ rfl⟩
theorem actC_below {w w1 : World} {A : Option Addr} {l : List Act} (hb : Below w.heap.size w w1) (h : actKd.C w A l.length l) : actKd.C w1 A l.length l := by
  refine ⟨h.1, h.2.1, fun h0 => ?_⟩
  obtain ⟨ad, e, hc⟩ := h.2.2 h0
  refine ⟨ad, e, fun j p hp => ?_⟩
  obtain ⟨c, h1, h2, h3⟩ := hc j p hp
  refine ⟨c, h1, actKd.K_below hb h2, fun i u hu => ?_⟩
  have h4 := h3 i u hu
  exact (hb.cell (World.block_lt_of_cell? _ _ h4)).trans h4
theorem add_add (ad : Addr) (i j : Nat) : ad.add (i + (j + 1)) = ⟨(ad.add i).block, (ad.add i).off + (j + 1), none⟩ := by
  unfold Addr.add
  by_cases h : i = 0
  · simp [h]
  · simp [h, Nat.add_assoc]
/-- The same, the element's address as the walk has it. -/
theorem act_cells {w : World} {A : Option Addr} {l : List Act} (h : actKd.C w A l.length l) (i : Nat) (hi : i < l.length) : ∃ ad, A = some ad ∧ w.cell? (ad.add (i * 5)) = some (.int .u8 (l.getD i act0).d) ∧ w.cell? ⟨(ad.add (i * 5)).block, (ad.add (i * 5)).off + 1, none⟩ = some (.int .i64 (l.getD i act0).p) ∧
    w.cell? ⟨(ad.add (i * 5)).block, (ad.add (i * 5)).off + 2, none⟩ = some (.int .i64 (l.getD i act0).n) ∧ w.cell? ⟨(ad.add (i * 5)).block, (ad.add (i * 5)).off + 3, none⟩ = some (.int .i64 (l.getD i act0).m) ∧ w.cell? ⟨(ad.add (i * 5)).block, (ad.add (i * 5)).off + 4, none⟩ = some (.bool (l.getD i act0).raw) := by
  obtain ⟨ad, e, h0, h1, h2, h3, h4⟩ := act_at h i hi
  rw [add_add] at h1 h2 h3 h4
  exact ⟨ad, e, h0, h1, h2, h3, h4⟩
/-- What the row of a law says of each act. -/
def Act.ok (x : Act) : Prop := (Lit.int .u8 x.d).wf = true ∧ (Lit.int .i64 x.p).wf = true ∧ (Lit.int .i64 x.n).wf = true ∧ (Lit.int .i64 x.m).wf = true
set_option maxRecDepth 100000 in
theorem opens_act {H : Type} {enc : TypeId × Value → H} {w : World} {base : Nat} {spare : Nat → Bool} {held : Bool} : Rs.Opens enc Try.prog w base spare held 34 actKd Act.ok := by
  intro fuel cs y h
  have ht := Try.underlying34
  obtain ⟨xs, n, _, _, hl, hlen, hf⟩ := DataW.trod_struct ht h
  have hl5 : cs.length = 5 := hl.trans (by kernel_rfl)
  match cs, hl5 with
  | [x0, x1, x2, x3, x4], _ =>
    have k1 : Try.prog.cellsOf 5 = 1 := by kernel_rfl
    have k2 : Try.prog.cellsOf 3 = 1 := by kernel_rfl
    have k3 : Try.prog.cellsOf 4 = 1 := by kernel_rfl
    match xs, hlen with
    | [y0, y1, y2, y3, y4], _ =>
      have f0 := hf 0 _ rfl
      have f1 := hf 1 _ rfl
      have f2 := hf 2 _ rfl
      have f3 := hf 3 _ rfl
      have f4 := hf 4 _ rfl
      simp only [k1, k2, k3, List.drop_succ_cons, List.drop_zero, List.take_succ_cons, List.take_zero, List.getElem?_cons_zero, List.getElem?_cons_succ] at f0 f1 f2 f3 f4
      obtain ⟨a0, e0, _, w0⟩ := DataW.trod_int Try.underlying5 f0
      obtain ⟨a1, e1, _, w1⟩ := DataW.trod_int Try.underlying3 f1
      obtain ⟨a2, e2, _, w2⟩ := DataW.trod_int Try.underlying3 f2
      obtain ⟨a3, e3, _, w3⟩ := DataW.trod_int Try.underlying3 f3
      obtain ⟨a4, e4, _⟩ := DataW.trod_bool Try.underlying4 f4
      injection e0 with e0
      injection e1 with e1
      injection e2 with e2
      injection e3 with e3
      injection e4 with e4
      subst e0 e1 e2 e3 e4
      exact ⟨⟨a0, a1, a2, a3, a4⟩, ⟨[_], _, rfl, rfl, [_], _, rfl, rfl, [_], _, rfl, rfl, [_], _, rfl, rfl, rfl⟩, w0, w1, w2, w3⟩
/-- A variable that lies in memory: its block behind whatever turns memory alone. -/
theorem box_keep {w w1 w2 : World} {mb cb : Nat} {m : M} {o : Obj} {g : Nat} (h : w1.heap[g]? = some o) (hf : Fr w1 w2 mb cb) (h1 : g ≠ mb) (h2 : g ≠ cb) : w2.heap[g]? = some o := hf.at_ h h1 h2
theorem At.lt_mb {w : World} {mb cb : Nat} {m : M} (h : At w mb cb m) : mb < w.heap.size := blk_lt h.hm
theorem At.lt_cb {w : World} {mb cb : Nat} {m : M} (h : At w mb cb m) : cb < w.heap.size := blk_lt h.hc
end
end Go.Proofs.Ythghhkdichbijaa.Mem
