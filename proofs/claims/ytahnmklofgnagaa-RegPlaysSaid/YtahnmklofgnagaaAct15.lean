/- What befalls a register, as the laws have it: a row of acts. Lists of truths in memory of their own. -/
import Derived.Test.YtahnmklofgnagaaRegView
import Derived.Test.YtahnmklofgnagaaRs
import Derived.Test.YtahnmklofgnagaaAwake15
namespace Go.Proofs.Ytahnmklofgnagaa.Mem
open Go.RowKit Go.Proofs.YtahnmklofgnagaaW.PrintWords Go.Proofs.Ytahnmklofgnagaa.Tags Go.ChangeShapes
set_option linter.unusedVariables false
set_option linter.unusedSimpArgs false
section
theorem u8_of {a : Int} (h : (Lit.int .u8 a).wf = true) : 0 ≤ a ∧ a < 256 := by
  have h' : 0 ≤ a ∧ a ≤ 255 := by simpa [Lit.wf, IntKind.min, IntKind.max, IntKind.signed, IntKind.bits] using h
  omega
theorem Fr.over {w w1 w2 : World} {mb cb : Nat} {B : Nat} (h : Fr w1 w2 mb cb) (hb : Below B w w1) (h0 : B ≤ w1.heap.size) (h1 : B ≤ mb) (h2 : B ≤ cb) : Below B w w2 :=
  ⟨h.os.trans hb.os, h.tape.trans hb.tape, h.output.trans hb.output, Nat.le_trans hb.size h.size, fun k hk => (h.block k (by omega) (by omega) (by omega)).trans (hb.block k hk)⟩
structure Act where
  d : Int
  p : Int
  n : Int
  m : Int
  raw : Bool
def actKd : Kd Act := Kd.iso (Kd.pair (Kd.int .u8) (Kd.pair (Kd.int .i64) (Kd.pair (Kd.int .i64) (Kd.pair (Kd.int .i64) Kd.bool)))) (fun x => (x.d, x.p, x.n, x.m, x.raw))
def act0 : Act := ⟨0, 0, 0, 0, false⟩
theorem act_at {w : World} {A : Option Addr} {l : List Act} (h : actKd.C w A l.length l) (i : Nat) (hi : i < l.length) : ∃ ad, A = some ad ∧ w.cell? (ad.add (i * 5)) = some (.int .u8 (l.getD i act0).d) ∧ w.cell? (ad.add (i * 5 + 1)) = some (.int .i64 (l.getD i act0).p) ∧
    w.cell? (ad.add (i * 5 + 2)) = some (.int .i64 (l.getD i act0).n) ∧ w.cell? (ad.add (i * 5 + 3)) = some (.int .i64 (l.getD i act0).m) ∧ w.cell? (ad.add (i * 5 + 4)) = some (.bool (l.getD i act0).raw) := by
  obtain ⟨ad, c, e, _, hk, hc⟩ := Kd.C_get h act0 (i : Int) (by omega) (by omega)
  rw [Int.toNat_natCast] at hk hc
  obtain ⟨c0, r0, rfl, k0, c1, r1, rfl, k1, c2, r2, rfl, k2, c3, r3, rfl, k3, k4⟩ := hk
  have e0 : c0 = [.int .u8 (l.getD i act0).d] := k0
  have e1 : c1 = [.int .i64 (l.getD i act0).p] := k1
  have e2 : c2 = [.int .i64 (l.getD i act0).n] := k2
  have e3 : c3 = [.int .i64 (l.getD i act0).m] := k3
  have e4 : r3 = [.bool (l.getD i act0).raw] := k4
  subst e0 e1 e2 e3 e4
  exact ⟨ad, e, hc 0 _ rfl, hc 1 _ rfl, hc 2 _ rfl, hc 3 _ rfl, hc 4 _ rfl⟩
theorem actC_below {w w1 : World} {A : Option Addr} {l : List Act} (hb : Below w.heap.size w w1) (h : actKd.C w A l.length l) : actKd.C w1 A l.length l := by
  refine ⟨h.1, h.2.1, fun h0 => ?_⟩
  obtain ⟨ad, e, hc⟩ := h.2.2 h0
  refine ⟨ad, e, fun j p hp => ?_⟩
  obtain ⟨c, h1, h2, h3⟩ := hc j p hp
  refine ⟨c, h1, actKd.K_below hb h2, fun i u hu => ?_⟩
  have h4 := h3 i u hu
  exact (hb.cell (World.block_lt_of_cell? _ _ h4)).trans h4
theorem add_add (ad : Addr) (i j : Nat) : ad.add (i + (j + 1)) = ⟨(ad.add i).block, (ad.add i).off + (j + 1), none⟩ := by
  unfold Addr.add
  by_cases h : i = 0
  · simp [h]
  · simp [h, Nat.add_assoc]
/-- The same, the element's address as the walk has it. -/
theorem act_cells {w : World} {A : Option Addr} {l : List Act} (h : actKd.C w A l.length l) (i : Nat) (hi : i < l.length) : ∃ ad, A = some ad ∧ w.cell? (ad.add (i * 5)) = some (.int .u8 (l.getD i act0).d) ∧ w.cell? ⟨(ad.add (i * 5)).block, (ad.add (i * 5)).off + 1, none⟩ = some (.int .i64 (l.getD i act0).p) ∧
    w.cell? ⟨(ad.add (i * 5)).block, (ad.add (i * 5)).off + 2, none⟩ = some (.int .i64 (l.getD i act0).n) ∧ w.cell? ⟨(ad.add (i * 5)).block, (ad.add (i * 5)).off + 3, none⟩ = some (.int .i64 (l.getD i act0).m) ∧ w.cell? ⟨(ad.add (i * 5)).block, (ad.add (i * 5)).off + 4, none⟩ = some (.bool (l.getD i act0).raw) := by
  obtain ⟨ad, e, h0, h1, h2, h3, h4⟩ := act_at h i hi
  rw [add_add] at h1 h2 h3 h4
  exact ⟨ad, e, h0, h1, h2, h3, h4⟩
/-- What the row of a law says of each act. -/
def Act.ok (x : Act) : Prop := (Lit.int .u8 x.d).wf = true ∧ (Lit.int .i64 x.p).wf = true ∧ (Lit.int .i64 x.n).wf = true ∧ (Lit.int .i64 x.m).wf = true
set_option maxRecDepth 100000 in
theorem opens_act {H : Type} {enc : TypeId × Value → H} {w : World} {base : Nat} {spare : Nat → Bool} {held : Bool} : Rs.Opens enc Try.prog w base spare held 91 actKd Act.ok := by
  intro fuel cs y h
  have ht := Try.underlying91
  obtain ⟨xs, n, _, _, hl, hlen, hf⟩ := DataW.trod_struct ht h
  have hl5 : cs.length = 5 := hl.trans (by kernel_rfl)
  match cs, hl5 with
  | [x0, x1, x2, x3, x4], _ =>
    have k1 : Try.prog.cellsOf 5 = 1 := by kernel_rfl
    have k2 : Try.prog.cellsOf 3 = 1 := by kernel_rfl
    have k3 : Try.prog.cellsOf 4 = 1 := by kernel_rfl
    match xs, hlen with
    | [y0, y1, y2, y3, y4], _ =>
      have f0 := hf 0 _ rfl
      have f1 := hf 1 _ rfl
      have f2 := hf 2 _ rfl
      have f3 := hf 3 _ rfl
      have f4 := hf 4 _ rfl
      simp only [k1, k2, k3, List.drop_succ_cons, List.drop_zero, List.take_succ_cons, List.take_zero, List.getElem?_cons_zero, List.getElem?_cons_succ] at f0 f1 f2 f3 f4
      obtain ⟨a0, e0, _, w0⟩ := DataW.trod_int Try.underlying5 f0
      obtain ⟨a1, e1, _, w1⟩ := DataW.trod_int Try.underlying3 f1
      obtain ⟨a2, e2, _, w2⟩ := DataW.trod_int Try.underlying3 f2
      obtain ⟨a3, e3, _, w3⟩ := DataW.trod_int Try.underlying3 f3
      obtain ⟨a4, e4, _⟩ := DataW.trod_bool Try.underlying4 f4
      injection e0 with e0
      injection e1 with e1
      injection e2 with e2
      injection e3 with e3
      injection e4 with e4
      subst e0 e1 e2 e3 e4
      exact ⟨⟨a0, a1, a2, a3, a4⟩, ⟨[_], _, rfl, rfl, [_], _, rfl, rfl, [_], _, rfl, rfl, [_], _, rfl, rfl, rfl⟩, w0, w1, w2, w3⟩
/-- A variable that lies in memory: its block behind whatever turns memory alone. -/
theorem box_keep {w w1 w2 : World} {mb cb : Nat} {m : M} {o : Obj} {g : Nat} (h : w1.heap[g]? = some o) (hf : Fr w1 w2 mb cb) (h1 : g ≠ mb) (h2 : g ≠ cb) : w2.heap[g]? = some o := hf.at_ h h1 h2
theorem At.lt_mb {w : World} {mb cb : Nat} {m : M} (h : At w mb cb m) : mb < w.heap.size := blk_lt h.hm
theorem At.lt_cb {w : World} {mb cb : Nat} {m : M} (h : At w mb cb m) : cb < w.heap.size := blk_lt h.hc
/-- A list of truths that lies in memory of its own. -/
def OwnB (w : World) (base : Nat) (v : Value) (xs : List Bool) : Prop := w.ownsRow base 4 1 v xs.length (xs.map Value.bool)
section
variable {w w' w1 w0 : World} {mb cb pb base : Nat} {m : M} {v : Value} {xs : List Bool}
theorem OwnB.nil (w : World) (base : Nat) : OwnB w base (.slice none 0 0) [] := World.ownsRow_nil _ _ _ _
theorem OwnB.ne (h : OwnB w base v xs) {g : Nat} {t : TypeId} {cs : Array Value} (hg : w.heap[g]? = some (.cells cs t (0, 0))) (ht : t ≠ 4) : some g ≠ v.ownBlock := by
  intro e
  obtain ⟨cells, hc⟩ := own_typed h g e.symm
  rw [hg] at hc
  injection hc with hc
  injection hc with _ hc
  exact ht hc
theorem OwnB.move (h : OwnB w base v xs) (hm : ∀ k, v.ownBlock = some k → w'.heap[k]? = w.heap[k]?) : OwnB w' base v xs := own_move h hm
theorem OwnB.fr (h : OwnB w base v xs) (hA : At w mb cb m) (hF : Fr w w' mb cb) : OwnB w' base v xs := by
  refine h.move fun k hk => ?_
  obtain ⟨cells, hc⟩ := own_typed h k hk
  refine hF.block k (blk_lt hc) ?_ ?_
  · rintro rfl
    exact h.ne hA.hm (by decide) hk.symm
  · rintro rfl
    exact h.ne hA.hc (by decide) hk.symm
theorem OwnB.alloc (h : OwnB w base v xs) (o : Obj) : OwnB (w.alloc o) base v xs := World.ownsRow.alloc h o
theorem OwnB.below (h : OwnB w base v xs) (hb : Below w.heap.size w w') : OwnB w' base v xs := by
  refine h.move fun k hk => ?_
  obtain ⟨cells, hc⟩ := own_typed h k hk
  exact hb.block k (blk_lt hc)
theorem OwnB.base_ (h : OwnB w base v xs) {B : Nat} (hB : B ≤ base) : ∀ k, v.ownBlock = some k → B ≤ k := by
  intro k hk
  rcases h.2 with ⟨rfl, _⟩ | ⟨g, cap, cur, rfl, hg, _⟩
  · cases hk
  · have : g = k := by simpa [Value.ownBlock] using hk
    omega
theorem OwnB.slice (h : OwnB w base v xs) : ∃ A c, v = .slice A xs.length c := by
  rcases h.2 with ⟨rfl, h0⟩ | ⟨g, cap, cur, rfl, hg, _⟩
  · rw [h0]
    exact ⟨none, 0, rfl⟩
  · exact ⟨_, _, rfl⟩
theorem OwnB.cell {A : Option Addr} {c : Nat} (h : OwnB w base (.slice A xs.length c) xs) (j : Nat) (hj : j < xs.length) : ∃ g, A = some ⟨g, 0, none⟩ ∧ w.cell? ⟨g, j, none⟩ = some (.bool (xs.getD j false)) := by
  rcases h.2 with ⟨_, h0⟩ | ⟨g, cap, cur, e, hg, _⟩
  · omega
  · injection e with e1 _ e3
    subst e1 e3
    refine ⟨g, rfl, ?_⟩
    rw [World.ownsRow.cellAt h j (by omega)]
    simp [List.getD_eq_getElem?_getD, List.getElem?_eq_getElem hj]
theorem OwnB.stored {g c : Nat} (h : OwnB w base (.slice (some ⟨g, 0, none⟩) xs.length c) xs) (j : Nat) (u : Bool) : OwnB (w.setCell ⟨g, j, none⟩ (.bool u)) base (.slice (some ⟨g, 0, none⟩) xs.length c) (xs.set j u) ∧ w.grownBy (w.setCell ⟨g, j, none⟩ (.bool u)) (some g) ∧ w.frozen? ⟨g, j, none⟩ = false := by
  obtain ⟨a, b⟩ := World.ownsRow.stored h j (.bool u)
  refine ⟨?_, b, World.ownsRow.frozenAt h j⟩
  unfold OwnB
  rw [List.length_set, List.map_set]
  exact a
theorem OwnB.add {v' : Value} {x : Bool} (h : w1.ownsRow base 4 1 v' (xs.length + 1) (xs.map Value.bool ++ [.bool x])) : OwnB w1 base v' (xs ++ [x]) := by
  unfold OwnB
  rw [List.length_append, List.map_append]
  exact h
theorem Fr.grownB (hF : Fr w0 w mb cb) (h : OwnB w base v xs) (hb : w0.heap.size ≤ base) (hg : w.grownBy w' v.ownBlock) : Fr w0 w' mb cb :=
  ⟨hg.os.trans hF.os, hg.tape.trans hF.tape, hg.output.trans hF.output, Nat.le_trans hF.size hg.size, fun k hk h1 h2 => (hg.block k (Nat.lt_of_lt_of_le hk hF.size) (by intro e; have := h.base_ hb k e.symm; omega)).trans (hF.block k hk h1 h2)⟩
theorem At.grownB (hA : At w mb cb m) (h : OwnB w base v xs) (hg : w.grownBy w1 v.ownBlock) : At w1 mb cb m :=
  hA.of_blocks ((blk_grown hA.hm hg (h.ne hA.hm (by decide))).trans hA.hm.symm) ((blk_grown hA.hc hg (h.ne hA.hc (by decide))).trans hA.hc.symm)
theorem St.grownB (h : St w0 w pb mb cb m) (hU : OwnB w base v xs) (hb : w0.heap.size ≤ base) (hg : w.grownBy w' v.ownBlock) : St w0 w' pb mb cb m :=
  ⟨h.A.grownB hU hg, (hg.block pb h.lt_pb (hU.ne h.P (by decide))).trans h.P, h.F.grownB hU hb hg⟩
theorem OwnB.ne_int (h : OwnB w base v xs) {base' : Nat} {u : Value} {ys : List Int} (hI : OwnI w base' u ys) {k : Nat} (hk : u.ownBlock = some k) : some k ≠ v.ownBlock := by
  obtain ⟨cells, hc⟩ := own_typed hI k hk
  exact h.ne hc (by decide)
theorem OwnI.grownB {base' : Nat} {u : Value} {ys : List Int} (hI : OwnI w base' u ys) (h : OwnB w base v xs) (hg : w.grownBy w1 v.ownBlock) : OwnI w1 base' u ys :=
  hI.move fun k hk => hg.block k (by obtain ⟨cells, hc⟩ := own_typed hI k hk; exact blk_lt hc) (h.ne_int hI hk)
theorem OwnB.grownI {base' : Nat} {u : Value} {ys : List Int} (h : OwnB w base v xs) (hI : OwnI w base' u ys) (hg : w.grownBy w1 u.ownBlock) : OwnB w1 base v xs :=
  h.move fun k hk => hg.block k (by obtain ⟨cells, hc⟩ := own_typed h k hk; exact blk_lt hc) (fun e => h.ne_int hI e.symm hk.symm)
end
theorem bool_info : (Try.prog.info? 4).map (fun i => (i.zero, i.size, i.bytes)) = some (some (.bool false), 1, 1) := by kernel_rfl
section
variable {ops : Array Oper} {rest : List Oper} {o : Oper} {a : Go.Act} {Q : Exit → Go.Act → World → Prop}
/-- 'append(xs, y)' on a list of truths of one's own. -/
theorem append_B {w0 W : World} (hgd : o.guard = none) (s x : Operand) (ho : o.op = .call { callee := .builtin .append, args := #[s, x], argTypes := #[89, 89] }) (base : Nat) (v : Value) (xs : List Bool) (y : Bool) (hO : OwnB W base v xs)
    (hs : a.eval s = v) (hx : a.eval x = .slice (some ⟨W.heap.size, 0, none⟩) 1 1) (hB : Below base w0 W) (hbase : base ≤ W.heap.size) (hl : xs.length ≤ 1000000)
    (h : ∀ v1 w1, OwnB w1 base v1 (xs ++ [y]) → Below base w0 w1 → W.grownBy w1 v.ownBlock → (v1.ownBlock = v.ownBlock ∨ ∃ b, v1.ownBlock = some b ∧ W.heap.size ≤ b) → wpList Try.prog ops Q rest (a.put o.dst v1) w1) :
    wpList Try.prog ops Q (o :: rest) a (W.alloc (.cells #[.bool y] 4)) := by
  refine print_append_cells base hgd s x 89 4 (.bool false) 1 1 ho Try.underlying89 bool_info rfl (by decide) (by decide) v xs.length (xs.map Value.bool) [.bool y] hs hx rfl (by intro u hu; simp at hu; subst hu; rfl) hO hB hbase (by omega) ?_
  intro v1 w1 hown hb1 hg1 hat1
  exact h v1 w1 (OwnB.add hown) hb1 hg1 hat1
end
end
end Go.Proofs.Ytahnmklofgnagaa.Mem
