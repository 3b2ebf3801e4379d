/- Ports, step by step: what a port holds, and its log, in memory; ask answers out of the log, or asks anew, or stops. -/
import Derived.Test.YthgbgflpjggpmaaMem4
import Derived.Laws.OwnMore
import Derived.Deep.QuietTactic
import Derived.BigQuiet
import Derived.StillTailTactics
import Derived.Deep.RegionWith
import Derived.BigRegion
import Derived.Test.YthgbgflpjggpmaaWLast
import Derived.Test.YthgbgflpjggpmaaWMore
import Derived.Deep.DeepCutAuto
import Derived.Outline
import Derived.WalkLawsBesides
namespace Go.Proofs.Ythgbgflpjggpmaa.Mem
open Go.RowKit Go.Proofs.YthgbgflpjggpmaaW.PrintWords Go.Proofs.YthgbgflpjggpmaaW.PrintLast Go.Proofs.Ythgbgflpjggpmaa.Tags
set_option linter.unusedVariables false
set_option linter.unusedSimpArgs false
abbrev ans (b : Value) (n : Int) (ok : Bool) (e : Int) : Value := .agg #[b, .int .i64 n, .bool ok, .int .i64 e]
/-- What memory answered. -/
structure Ans where
  b : Value
  n : Int
  ok : Bool
  e : Int
def a0 : Ans := ⟨.nilIface, 0, false, 0⟩
def Ans.good (a : Ans) : Prop := a.b = .nilIface ∨ ∃ T x, a.b = .iface T x
def Ans.row (a : Ans) : List Value := [a.b, .int .i64 a.n, .bool a.ok, .int .i64 a.e]
abbrev Ans.v (a : Ans) : Value := ans a.b a.n a.ok a.e
/-- A port. -/
structure PS where
  m : M
  log : List Ans
  at_ : Nat
  left : Int
  note : Int
/-- What is answered, and the port behind it; or it stops. -/
inductive Res (α : Type) where
  | ret (x : α) (s : PS)
  | out (s : PS)
def Res.map {α β : Type} (f : α → β) : Res α → Res β
  | .ret x s => .ret (f x) s
  | .out s => .out s
def Res.bind {α β : Type} (r : Res α) (f : α → PS → Res β) : Res β :=
  match r with
  | .ret x s => f x s
  | .out s => .out s
def PS.ask (s : PS) (q : M → M × Ans) : Res Ans :=
  if s.at_ < s.log.length then .ret (s.log.getD s.at_ a0) { s with at_ := s.at_ + 1 }
  else if s.left = 0 then .out s
  else if 0 < s.left then .ret (q s.m).2 { s with m := (q s.m).1, log := s.log ++ [(q s.m).2], at_ := s.at_ + 1, left := s.left - 1 }
  else .ret (q s.m).2 { s with m := (q s.m).1 }
/-- A port's log, in memory of its own. -/
def OwnA (w : World) (v : Value) (l : List Ans) : Prop := w.ownsRow 0 76 4 v l.length (l.flatMap Ans.row)
/-- Nothing but what S says was written. -/
structure Fx (S : Nat → Prop) (w w' : World) : Prop where
  os : w'.os = w.os
  tape : w'.tape = w.tape
  output : w'.output = w.output
  size : w.heap.size ≤ w'.heap.size
  block : ∀ k, k < w.heap.size → ¬ S k → w'.heap[k]? = w.heap[k]?
/-- One block was written, no other. -/
structure Only (w w' : World) (b : Nat) : Prop where
  os : w'.os = w.os
  tape : w'.tape = w.tape
  output : w'.output = w.output
  size : w'.heap.size = w.heap.size
  block : ∀ k, k ≠ b → w'.heap[k]? = w.heap[k]?
section
variable {w w' w0 : World} {pb mb cb : Nat} {m m' : M} {S T : Nat → Prop}
theorem Only.set (w : World) (p : Addr) (u : Value) : Only w (w.setCell p u) p.block := ⟨rfl, rfl, rfl, by simp [World.setCell], fun k hk => Below.heap_setCell w p u k hk⟩
theorem Only.trans {w2 : World} {b : Nat} (h : Only w w' b) (k : Only w' w2 b) : Only w w2 b := ⟨k.os.trans h.os, k.tape.trans h.tape, k.output.trans h.output, k.size.trans h.size, fun i hi => (k.block i hi).trans (h.block i hi)⟩
theorem Fx.refl (S : Nat → Prop) (w : World) : Fx S w w := ⟨rfl, rfl, rfl, Nat.le_refl _, fun _ _ _ => rfl⟩
theorem Fx.trans {a b c : World} (h : Fx S a b) (k : Fx T b c) (hT : ∀ i, i < a.heap.size → T i → S i) : Fx S a c :=
  ⟨k.os.trans h.os, k.tape.trans h.tape, k.output.trans h.output, Nat.le_trans h.size k.size, fun i hi hs => (k.block i (Nat.lt_of_lt_of_le hi h.size) (fun t => hs (hT i hi t))).trans (h.block i hi hs)⟩
theorem Fx.of_below (S : Nat → Prop) (hb : Below w.heap.size w w') : Fx S w w' := ⟨hb.os, hb.tape, hb.output, hb.size, fun k hk _ => hb.block k hk⟩
theorem Fx.of_fr (hF : Fr w w' mb cb) (h1 : S mb) (h2 : S cb) : Fx S w w' := ⟨hF.os, hF.tape, hF.output, hF.size, fun k hk hs => hF.block k hk (fun e => hs (e ▸ h1)) (fun e => hs (e ▸ h2))⟩
theorem Fx.of_only {b : Nat} (h : Only w w' b) (hb : S b) : Fx S w w' := ⟨h.os, h.tape, h.output, Nat.le_of_eq h.size.symm, fun k _ hs => h.block k (fun e => hs (e ▸ hb))⟩
theorem Fx.of_grown {r : Option Nat} (hg : w.grownBy w' r) (hr : ∀ k, r = some k → S k) : Fx S w w' := ⟨hg.os, hg.tape, hg.output, hg.size, fun k hk hs => hg.block k hk (fun e => hs (hr k e.symm))⟩
theorem Fx.to_below {base : Nat} (h : Fx S w w') (hb : base ≤ w.heap.size) (hS : ∀ k, S k → base ≤ k) : Below base w w' := ⟨h.os, h.tape, h.output, h.size, fun k hk => h.block k (Nat.lt_of_lt_of_le hk hb) (fun s => by have := hS k s; omega)⟩
theorem At.only {b : Nat} (h : At w mb cb m) (k : Only w w' b) (h1 : mb ≠ b) (h2 : cb ≠ b) : At w' mb cb m := h.of_blocks (k.block mb h1) (k.block cb h2)
theorem At.grown_ {r : Option Nat} (h : At w mb cb m) (hg : w.grownBy w' r) (h1 : some mb ≠ r) (h2 : some cb ≠ r) : At w' mb cb m :=
  h.of_blocks ((blk_grown h.hm hg h1).trans h.hm.symm) ((blk_grown h.hc hg h2).trans h.hc.symm)
theorem mb_lt (h : At w mb cb m) : mb < w.heap.size := blk_lt h.hm
theorem cb_lt (h : At w mb cb m) : cb < w.heap.size := blk_lt h.hc
theorem box4 {g : Nat} {t : TypeId} {a b c d : Value} {w : World} (h : w.heap[g]? = some (.cells #[a, b, c, d] t (0, 0))) : w.cell? ⟨g, 0, none⟩ = some a ∧ w.cell? ⟨g, 1, none⟩ = some b ∧ w.cell? ⟨g, 2, none⟩ = some c ∧ w.cell? ⟨g, 3, none⟩ = some d :=
  ⟨(blk_cell h 0).trans rfl, (blk_cell h 1).trans rfl, (blk_cell h 2).trans rfl, (blk_cell h 3).trans rfl⟩
abbrev set4 (w : World) (b : Nat) (v0 v1 v2 v3 : Value) : World := (((w.setCell ⟨b, 0, none⟩ v0).setCell ⟨b, 1, none⟩ v1).setCell ⟨b, 2, none⟩ v2).setCell ⟨b, 3, none⟩ v3
theorem only4 (w : World) (b : Nat) (v0 v1 v2 v3 : Value) : Only w (set4 w b v0 v1 v2 v3) b := (((Only.set w ⟨b, 0, none⟩ v0).trans (Only.set _ ⟨b, 1, none⟩ v1)).trans (Only.set _ ⟨b, 2, none⟩ v2)).trans (Only.set _ ⟨b, 3, none⟩ v3)
theorem blk4 {b : Nat} {t : TypeId} {a0 a1 a2 a3 : Value} (h : w.heap[b]? = some (.cells #[a0, a1, a2, a3] t (0, 0))) (v0 v1 v2 v3 : Value) : (set4 w b v0 v1 v2 v3).heap[b]? = some (.cells #[v0, v1, v2, v3] t (0, 0)) :=
  blk_put (blk_put (blk_put (blk_put h 0 v0 rfl) 1 v1 rfl) 2 v2 rfl) 3 v3 rfl
theorem Fr.only {a : World} {b : Nat} (h : Fr a w mb cb) (k : Only w w' b) (hb : a.heap.size ≤ b) : Fr a w' mb cb := ⟨k.os.trans h.os, k.tape.trans h.tape, k.output.trans h.output, by rw [k.size]; exact h.size, fun i hi h1 h2 => (k.block i (by omega)).trans (h.block i hi h1 h2)⟩
theorem makeFunc_run (fn : Fn) (first cap : Array Value) (w : World) : (Instr.makeFunc fn first cap).run Try.prog w = .ok (.func fn first cap) w := rfl
theorem box1 {g : Nat} {t : TypeId} {a : Value} {w : World} (h : w.heap[g]? = some (.cells #[a] t (0, 0))) : w.cell? ⟨g, 0, none⟩ = some a := (blk_cell h 0).trans rfl
theorem field_ans (b : Value) (n : Int) (ok : Bool) (e : Int) (w : World) : (Instr.field 76 (ans b n ok e) 3).run Try.prog w = .ok (.int .i64 e) w := by kernel_rfl
/-- A port's block. -/
def PG (w : World) (pb mb : Nat) (v : Value) (a l n : Int) : Prop := w.heap[pb]? = some (.cells #[ptr mb, v, .int .i64 a, .int .i64 l, .int .i64 n] 72 (0, 0))
section
variable {v : Value} {a l n : Int}
theorem PG.cells (h : PG w pb mb v a l n) : w.cell? ⟨pb, 0, none⟩ = some (ptr mb) ∧ w.cell? ⟨pb, 1, none⟩ = some v ∧ w.cell? ⟨pb, 2, none⟩ = some (.int .i64 a) ∧ w.cell? ⟨pb, 3, none⟩ = some (.int .i64 l) ∧ w.cell? ⟨pb, 4, none⟩ = some (.int .i64 n) :=
  ⟨(blk_cell h 0).trans rfl, (blk_cell h 1).trans rfl, (blk_cell h 2).trans rfl, (blk_cell h 3).trans rfl, (blk_cell h 4).trans rfl⟩
theorem PG.below (h : PG w pb mb v a l n) (hb : Below w.heap.size w w') : PG w' pb mb v a l n := blk_below h hb
theorem PG.lt (h : PG w pb mb v a l n) : pb < w.heap.size := blk_lt h
theorem PG.ne (h : PG w pb mb v a l n) (hA : At w mb cb m) : pb ≠ mb ∧ pb ≠ cb := ⟨blk_ne h hA.hm (by decide), blk_ne h hA.hc (by decide)⟩
theorem PG.fr (h : PG w pb mb v a l n) (hA : At w mb cb m) (hF : Fr w w' mb cb) : PG w' pb mb v a l n := (hF.block pb h.lt (h.ne hA).1 (h.ne hA).2).trans h
end
theorem OwnA.ne {v : Value} {l : List Ans} (h : OwnA w v l) {g : Nat} {t : TypeId} {cs : Array Value} (hg : w.heap[g]? = some (.cells cs t (0, 0))) (ht : t ≠ 76) : some g ≠ v.ownBlock := by
  intro e
  obtain ⟨cells, hc⟩ := own_typed h g e.symm
  rw [hg] at hc
  injection hc with hc
  injection hc with _ hc
  exact ht hc
theorem OwnA.move {v : Value} {l : List Ans} (h : OwnA w v l) (hm : ∀ k, v.ownBlock = some k → w'.heap[k]? = w.heap[k]?) : OwnA w' v l := own_move h hm
theorem OwnA.lt {v : Value} {l : List Ans} (h : OwnA w v l) {k : Nat} (hk : v.ownBlock = some k) : k < w.heap.size := by
  obtain ⟨cells, hc⟩ := own_typed h k hk
  exact blk_lt hc
theorem OwnA.nil (w : World) : OwnA w (.slice none 0 0) [] := World.ownsRow_nil _ _ _ _
theorem OwnA.below {v : Value} {l : List Ans} (h : OwnA w v l) (hb : Below w.heap.size w w') : OwnA w' v l := h.move fun k hk => hb.block k (h.lt hk)
theorem OwnA.fr {v : Value} {l : List Ans} (h : OwnA w v l) (hA : At w mb cb m) (hF : Fr w w' mb cb) : OwnA w' v l := h.move fun k hk => hF.block k (h.lt hk) (by rintro rfl; exact h.ne hA.hm (by decide) hk.symm) (by rintro rfl; exact h.ne hA.hc (by decide) hk.symm)
theorem OwnA.only {v : Value} {l : List Ans} {b : Nat} (h : OwnA w v l) (k : Only w w' b) (hb : some b ≠ v.ownBlock) : OwnA w' v l := h.move fun i hi => k.block i (by rintro rfl; exact hb hi.symm)
theorem OwnA.slice {v : Value} {l : List Ans} (h : OwnA w v l) : ∃ A c, v = .slice A l.length c := by
  rcases h.2 with ⟨rfl, h0⟩ | ⟨g, cap, cur, rfl, hg, _⟩
  · rw [h0]
    exact ⟨none, 0, rfl⟩
  · exact ⟨_, _, rfl⟩
theorem flat_at : ∀ (l : List Ans) (j : Nat), j < l.length → (l.flatMap Ans.row)[j * 4]? = some (l.getD j a0).b ∧ (l.flatMap Ans.row)[j * 4 + 1]? = some (.int .i64 (l.getD j a0).n) ∧ (l.flatMap Ans.row)[j * 4 + 2]? = some (.bool (l.getD j a0).ok) ∧ (l.flatMap Ans.row)[j * 4 + 3]? = some (.int .i64 (l.getD j a0).e)
  | [], j, h => by simp at h
  | c :: l, 0, _ => ⟨rfl, rfl, rfl, rfl⟩
  | c :: l, j + 1, h => by
    have ih := flat_at l j (by simpa using h)
    have e0 : (j + 1) * 4 = j * 4 + 4 := by omega
    have e : ∀ i, (j + 1) * 4 + i = (j * 4 + i) + 4 := fun i => by omega
    have s : ∀ i, ((c :: l).flatMap Ans.row)[i + 4]? = (l.flatMap Ans.row)[i]? := fun i => rfl
    refine ⟨?_, ?_, ?_, ?_⟩
    · rw [e0, s]; exact ih.1
    · rw [e, s]; exact ih.2.1
    · rw [e, s]; exact ih.2.2.1
    · rw [e, s]; exact ih.2.2.2
theorem OwnA.cells {l : List Ans} {A : Option Addr} {c : Nat} (h : OwnA w (.slice A l.length c) l) (j : Nat) (hj : j < l.length) : ∃ g, A = some ⟨g, 0, none⟩ ∧ w.cell? ⟨g, j * 4, none⟩ = some (l.getD j a0).b ∧ w.cell? ⟨g, j * 4 + 1, none⟩ = some (.int .i64 (l.getD j a0).n) ∧ w.cell? ⟨g, j * 4 + 2, none⟩ = some (.bool (l.getD j a0).ok) ∧ w.cell? ⟨g, j * 4 + 3, none⟩ = some (.int .i64 (l.getD j a0).e) := by
  rcases h.2 with ⟨_, h0⟩ | ⟨g, cap, cur, e, hg, _⟩
  · omega
  · injection e with e1 _ e3
    subst e1 e3
    obtain ⟨f0, f1, f2, f3⟩ := flat_at l j hj
    exact ⟨g, rfl, (World.ownsRow.cellAt h _ (by omega)).trans f0, (World.ownsRow.cellAt h _ (by omega)).trans f1, (World.ownsRow.cellAt h _ (by omega)).trans f2, (World.ownsRow.cellAt h _ (by omega)).trans f3⟩
/-- A port and its log, in a world that came of w0, where only S was written. -/
structure Sp (w0 : World) (S : Nat → Prop) (w : World) (pb mb cb : Nat) (s : PS) (v : Value) : Prop where
  A : At w mb cb s.m
  P : PG w pb mb v s.at_ s.left s.note
  L : OwnA w v s.log
  F : Fx S w0 w
  sp : S pb
  sm : S mb
  sc : S cb
  sv : ∀ k, v.ownBlock = some k → S k ∨ w0.heap.size ≤ k
  ok : ∀ a, a ∈ s.log → a.good
  len : s.log.length + s.left.toNat ≤ 100000
  le : s.at_ + s.left.toNat ≤ 100000
variable {s : PS} {v : Value}
theorem Sp.below (h : Sp w0 S w pb mb cb s v) (hb : Below w.heap.size w w') : Sp w0 S w' pb mb cb s v :=
  ⟨h.A.below hb, h.P.below hb, h.L.below hb, h.F.trans (Fx.of_below S hb) (fun _ _ t => t), h.sp, h.sm, h.sc, h.sv, h.ok, h.len, h.le⟩
theorem Sp.fr (h : Sp w0 S w pb mb cb s v) (hA : At w' mb cb m') (hF : Fr w w' mb cb) : Sp w0 S w' pb mb cb { s with m := m' } v :=
  ⟨hA, h.P.fr h.A hF, h.L.fr h.A hF, h.F.trans (Fx.of_fr hF h.sm h.sc) (fun _ _ t => t), h.sp, h.sm, h.sc, h.sv, h.ok, h.len, h.le⟩
theorem Sp.pn (h : Sp w0 S w pb mb cb s v) : some pb ≠ v.ownBlock := h.L.ne h.P (by decide)
/-- One of the port's own cells is written. -/
theorem Sp.port (h : Sp w0 S w pb mb cb s v) {at_ : Nat} {left note : Int} (k : Only w w' pb) (hP : PG w' pb mb v at_ left note) (hle : at_ + left.toNat ≤ 100000) (hlen : s.log.length + left.toNat ≤ 100000) : Sp w0 S w' pb mb cb { s with at_ := at_, left := left, note := note } v :=
  ⟨h.A.only k (Ne.symm (h.P.ne h.A).1) (Ne.symm (h.P.ne h.A).2), hP, h.L.only k h.pn, h.F.trans (Fx.of_only k h.sp) (fun _ _ t => t), h.sp, h.sm, h.sc, h.sv, h.ok, hlen, hle⟩
end
end Go.Proofs.Ythgbgflpjggpmaa.Mem
