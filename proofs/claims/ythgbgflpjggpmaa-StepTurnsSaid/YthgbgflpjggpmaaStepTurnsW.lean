/- StepTurns, by hand: whatever three functions ask, and in whatever order their steps are done, each step asks what the document says. -/
import Derived.Test.YthgbgflpjggpmaaStepTurn1
import Derived.WalkSpells
namespace Go.Proofs.Ythgbgflpjggpmaa.Mem
open Go.RowKit Go.Proofs.YthgbgflpjggpmaaW.PrintWords Go.Proofs.YthgbgflpjggpmaaW.PrintLast Go.Proofs.Ythgbgflpjggpmaa.Tags
open Go.Proofs.Ythgbgflpjggpmaa.PStepAlone (S57 k57 z57 rd_T57 at_T57 z108 rundleref13_Next.f rundleref13_Next.calls)
open Go.Proofs.Ythgbgflpjggpmaa.RefAlloc
set_option linter.unusedVariables false
set_option linter.unusedSimpArgs false
section
set_option maxHeartbeats 1600000 in
set_option maxRecDepth 100000 in
theorem StepTurns_long0 (a : Int) (A0 A1 A2 At : Option Addr) (c0 c1 c2 ct : Nat) (l0 l1 l2 : List S57) (lt : List Int)  (hq : 40 < l0.length) (w : World) :
    Calls Try.prog 4 #[.int .u8 a, .slice A0 l0.length c0, .slice A1 l1.length c1, .slice A2 l2.length c2, .slice At lt.length ct] w fun e w' => e = .returned (.bool true) ∧ Below w.heap.size w w' := by
  have g9 : decide ((40 : Int) < (l0.length : Int)) = true := decide_eq_true (by omega)
  have k9 : decide (40 < l0.length) = true := decide_eq_true (by omega)
  go_enter Try.func4, Try.ntmps4
  go_wp2_with fail
  refine (awake13_calls w).mono ?_
  rintro e w1 ⟨rfl, hB1⟩
  go_wp2_with fail
  refine (awake13_calls w1).mono ?_
  rintro e w2 ⟨rfl, hB2⟩
  go_wp2
  go_ret
  exact ⟨rfl, below_then hB1 hB1.size hB2⟩
set_option maxHeartbeats 1600000 in
set_option maxRecDepth 100000 in
theorem StepTurns_long1 (a : Int) (A0 A1 A2 At : Option Addr) (c0 c1 c2 ct : Nat) (l0 l1 l2 : List S57) (lt : List Int) (h0 : l0.length ≤ 40) (hq : 40 < l1.length) (w : World) :
    Calls Try.prog 4 #[.int .u8 a, .slice A0 l0.length c0, .slice A1 l1.length c1, .slice A2 l2.length c2, .slice At lt.length ct] w fun e w' => e = .returned (.bool true) ∧ Below w.heap.size w w' := by
  have g0 : decide ((40 : Int) < (l0.length : Int)) = false := decide_eq_false (by omega)
  have k0 : decide (40 < l0.length) = false := decide_eq_false (by omega)
  have g9 : decide ((40 : Int) < (l1.length : Int)) = true := decide_eq_true (by omega)
  have k9 : decide (40 < l1.length) = true := decide_eq_true (by omega)
  go_enter Try.func4, Try.ntmps4
  go_wp2_with fail
  refine (awake13_calls w).mono ?_
  rintro e w1 ⟨rfl, hB1⟩
  go_wp2_with fail
  refine (awake13_calls w1).mono ?_
  rintro e w2 ⟨rfl, hB2⟩
  go_wp2
  go_ret
  exact ⟨rfl, below_then hB1 hB1.size hB2⟩
set_option maxHeartbeats 1600000 in
set_option maxRecDepth 100000 in
theorem StepTurns_long2 (a : Int) (A0 A1 A2 At : Option Addr) (c0 c1 c2 ct : Nat) (l0 l1 l2 : List S57) (lt : List Int) (h0 : l0.length ≤ 40) (h1 : l1.length ≤ 40) (hq : 40 < l2.length) (w : World) :
    Calls Try.prog 4 #[.int .u8 a, .slice A0 l0.length c0, .slice A1 l1.length c1, .slice A2 l2.length c2, .slice At lt.length ct] w fun e w' => e = .returned (.bool true) ∧ Below w.heap.size w w' := by
  have g0 : decide ((40 : Int) < (l0.length : Int)) = false := decide_eq_false (by omega)
  have k0 : decide (40 < l0.length) = false := decide_eq_false (by omega)
  have g1 : decide ((40 : Int) < (l1.length : Int)) = false := decide_eq_false (by omega)
  have k1 : decide (40 < l1.length) = false := decide_eq_false (by omega)
  have g9 : decide ((40 : Int) < (l2.length : Int)) = true := decide_eq_true (by omega)
  have k9 : decide (40 < l2.length) = true := decide_eq_true (by omega)
  go_enter Try.func4, Try.ntmps4
  go_wp2_with fail
  refine (awake13_calls w).mono ?_
  rintro e w1 ⟨rfl, hB1⟩
  go_wp2_with fail
  refine (awake13_calls w1).mono ?_
  rintro e w2 ⟨rfl, hB2⟩
  go_wp2
  go_ret
  exact ⟨rfl, below_then hB1 hB1.size hB2⟩
set_option maxHeartbeats 1600000 in
set_option maxRecDepth 100000 in
theorem StepTurns_long3 (a : Int) (A0 A1 A2 At : Option Addr) (c0 c1 c2 ct : Nat) (l0 l1 l2 : List S57) (lt : List Int) (h0 : l0.length ≤ 40) (h1 : l1.length ≤ 40) (h2 : l2.length ≤ 40) (hq : 200 < lt.length) (w : World) :
    Calls Try.prog 4 #[.int .u8 a, .slice A0 l0.length c0, .slice A1 l1.length c1, .slice A2 l2.length c2, .slice At lt.length ct] w fun e w' => e = .returned (.bool true) ∧ Below w.heap.size w w' := by
  have g0 : decide ((40 : Int) < (l0.length : Int)) = false := decide_eq_false (by omega)
  have k0 : decide (40 < l0.length) = false := decide_eq_false (by omega)
  have g1 : decide ((40 : Int) < (l1.length : Int)) = false := decide_eq_false (by omega)
  have k1 : decide (40 < l1.length) = false := decide_eq_false (by omega)
  have g2 : decide ((40 : Int) < (l2.length : Int)) = false := decide_eq_false (by omega)
  have k2 : decide (40 < l2.length) = false := decide_eq_false (by omega)
  have g9 : decide ((200 : Int) < (lt.length : Int)) = true := decide_eq_true (by omega)
  have k9 : decide (200 < lt.length) = true := decide_eq_true (by omega)
  go_enter Try.func4, Try.ntmps4
  go_wp2_with fail
  refine (awake13_calls w).mono ?_
  rintro e w1 ⟨rfl, hB1⟩
  go_wp2_with fail
  refine (awake13_calls w1).mono ?_
  rintro e w2 ⟨rfl, hB2⟩
  go_wp2
  go_ret
  exact ⟨rfl, below_then hB1 hB1.size hB2⟩
/-- A row of bytes that is read. -/
def RdB (w : World) (A : Option Addr) (l : List Int) : Prop := ∀ j, j < l.length → ∃ ad, A = some ad ∧ w.cell? (ad.add j) = some (.int .u8 (l.getD j 0)) ∧ ad.block < w.heap.size
theorem rdb_of {w : World} {A : Option Addr} {l : List Int} (h : (Kd.int .u8).C w A l.length l) : RdB w A l := fun j hj => by
  obtain ⟨ad, c, e, _, hk, hc⟩ := ReadsRow.get_ h 0 (j : Int) (by omega) (by omega)
  have hk' : c = [.int .u8 (l.getD j 0)] := hk
  subst hk'
  have := hc 0 _ rfl
  rw [show (j : Int).toNat * (Kd.int .u8).sz + 0 = j by show (j : Int).toNat * 1 + 0 = j; omega] at this
  refine ⟨ad, e, this, ?_⟩
  have hb : (ad.add j).block = ad.block := by unfold Addr.add; split <;> rfl
  by_cases hn : ad.block < w.heap.size
  · exact hn
  · have h0 : w.heap[(ad.add j).block]? = none := Array.getElem?_eq_none (by rw [hb]; omega)
    simp [World.cell?, h0] at this
theorem RV.oq {w w' : World} {B : Nat} {x : Value} {r : R} (h : RV w B x r) (hO : Oq w w') : RV w' B x r := h.keep fun k hk => by
  obtain ⟨cells, hc⟩ := h.typed hk
  rw [hO k _ _ hc (by decide), hc]
theorem cell_at0 {w w' : World} {p : Addr} {v : Value} (hb : Below w.heap.size w w') (h : w.cell? p = some v) : w'.cell? p = some v := cell_later hb h
/-- The document's One, in a world that has grown. -/
theorem one_at {w W w0 : World} {x_ : Value} {q : R} (hW : Below w.heap.size w W) (hB : Below w0.heap.size w0 w) (h : RV w w0.heap.size x_ q) (hg : ∀ i, i < q.l.length → 0 ≤ (q.at i).f2) (x : S57) (h0 : 0 ≤ x.f0 ∧ x.f0 ≤ 255) (told : Int) {q2 : R} {n2 e2 t2 : Int} (ho : oneR q x told = (q2, n2, e2, t2)) :
    Calls Try.prog 20 #[x_, .agg (askV x), .int .i64 told] W fun e w' => ∃ g c, e = .returned (.tuple #[agg4 (.slice (some ⟨g, 0, none⟩) q2.l.length c) q2.c q2.lv q2.st, .int .i64 n2, .int .i64 e2, .int .i64 t2]) ∧ RV w' w0.heap.size (agg4 (.slice (some ⟨g, 0, none⟩) q2.l.length c) q2.c q2.lv q2.st) q2 ∧ Below w0.heap.size w0 w' ∧ Kq W w' := by
  refine (rone_calls (below_then hB hB.size hW) (h.move hW) hg x h0 told).mono ?_
  rw [ho]
  rintro e w' ⟨x', rfl, h2, h3, h4⟩
  have h2' := h2
  obtain ⟨g, c, tl, rfl, _⟩ := h2'.open
  exact ⟨g, c, rfl, h2, h3, h4⟩
theorem count_quiet {w : World} {mb cb : Nat} {m : M} (h : At w mb cb m) {c : Int} (e : m.count = c) (n : Nat) : Calls Try.prog 22 #[ptr mb] (w.drewN n) fun e w'' => e = .returned (.int .i64 c) ∧ ∃ k, w'' = w.drewN k := by
  subst e
  exact (count_calls (h.drewN n)).mono fun _ _ ⟨h1, h2⟩ => ⟨h1, n, h2.symm⟩
theorem live_quiet {w : World} {mb cb : Nat} {m : M} (h : At w mb cb m) {c : Int} (e : m.live = c) (n : Nat) : Calls Try.prog 23 #[ptr mb] (w.drewN n) fun e w'' => e = .returned (.int .i64 c) ∧ ∃ k, w'' = w.drewN k := by
  subst e
  exact (live_calls (h.drewN n)).mono fun _ _ ⟨h1, h2⟩ => ⟨h1, n, h2.symm⟩
theorem stale_quiet {w : World} {mb cb : Nat} {m : M} (h : At w mb cb m) {c : Int} (e : m.stale = c) (n : Nat) : Calls Try.prog 24 #[ptr mb] (w.drewN n) fun e w'' => e = .returned (.int .i64 c) ∧ ∃ k, w'' = w.drewN k := by
  subst e
  exact (stale_calls (h.drewN n)).mono fun _ _ ⟨h1, h2⟩ => ⟨h1, n, h2.symm⟩
theorem msteps_quiet {w : World} {xb pb : Nat} {fv out : Value} {steps : Int} {ended : Bool} (h : MG w xb pb fv out steps ended) (n : Nat) : Calls Try.prog 25 #[ptr xb] (w.drewN n) fun e w'' => e = .returned (.int .i64 steps) ∧ ∃ k, w'' = w.drewN k :=
  (msteps_calls (MG.below h (pw_below_drewN (Below.refl _ _) n))).mono fun _ _ ⟨h1, h2⟩ => ⟨h1, n, h2⟩
theorem upd_same {α : Type} (f : Nat → α) (i : Nat) {x : α} (h : f i = x) : upd f i x = f := by
  funext j
  unfold upd
  split
  · rename_i e
    rw [e, h]
  · rfl
theorem Tu.lbs {w0 w : World} {mb cb N : Nat} {s : Ls} {f : Nat → Rec} {r : Nat → R5} {m : M} (h : Tu w0 mb cb s N w f r m) {lb : Nat → Nat} (e : ∀ i, i < N → lb i = s.lb i) : Tu w0 mb cb ⟨s.L, s.A, s.c, lb⟩ N w f r m :=
  ⟨h.Am, fun i hi => by rw [show (Ls.lb ⟨s.L, s.A, s.c, lb⟩) i = s.lb i from e i hi]; exact h.D i hi, fun i hi => by rw [show (Ls.lb ⟨s.L, s.A, s.c, lb⟩) i = s.lb i from e i hi]; exact h.H i hi, h.ds, h.T, h.B, h.bm, h.bs⟩
theorem PtrBox.there {w : World} {b N : Nat} {f : Nat → Rec} (h : PtrBox w b N f) {j : Nat} (hj : j < 3) : ∃ u, w.cell? ⟨b, j, none⟩ = some u := by
  obtain ⟨cs, h0, h1, h2⟩ := h
  rw [blk_cell h1]
  exact ⟨_, Array.getElem?_eq_getElem (by omega)⟩
theorem upd_const {α : Type} (c : α) (i : Nat) : upd (fun _ => c) i c = fun _ => c := by
  funext j
  unfold upd
  split <;> rfl
def three {α : Type} (x y z : α) (i : Nat) : α := if i = 0 then x else if i = 1 then y else z
/-- The first loop. -/
def LoopT (w0 : World) (mb cb n jb xbx rbx : Nat) (L : Nat → List S57) (A : Nat → Option Addr) (c : Nat → Nat) (i : Value) (w : World) : Prop := ∃ (k : Nat) (f : Nat → Rec) (lb : Nat → Nat), k ≤ 3 ∧ i = .int .i64 k ∧ Tu w0 mb cb ⟨L, A, c, lb⟩ k w f (fun _ => r0) (M.new n) ∧ PtrBox w xbx k f ∧ RowBox w jb ⟨L, A, c, lb⟩ ∧ RunBox w rbx (fun _ => r0)
/-- The second loop. -/
def LoopU (w0 : World) (mb cb jb xbx rbx wb nt : Nat) (s : Ls) (i : Value) (w : World) : Prop := ∃ (k : Nat) (f : Nat → Rec) (r : Nat → R5) (m : M) (q : R) (vr : Value), k ≤ nt ∧ i = .int .i64 k ∧ Tu w0 mb cb s 3 w f r m ∧ PtrBox w xbx 3 f ∧ RowBox w jb s ∧ RunBox w rbx r ∧ Sim m q ∧ RV w w0.heap.size (agg4 vr q.c q.lv q.st) q ∧ w.heap[wb]? = some (.cells #[vr, .int .i64 q.c, .int .i64 q.lv, .int .i64 q.st] 52 (0, 0))
def CutT (w0 : World) (mb cb jb xbx rbx wb : Nat) (s : Ls) (f : Nat → Rec) (r : Nat → R5) (m : M) (q2 : R) (n2 e2 t2 : Int) (cs : Array Value) (s20 s21 s22 s23 : Value) (w : World) : Prop := ∃ (b g c : Nat), s20 = .pointer (some ⟨b, 0, none⟩) ∧ s21 = .int .i64 n2 ∧ s22 = .int .i64 e2 ∧ s23 = .int .i64 t2 ∧
  w.heap[b]? = some (.cells #[.slice (some ⟨g, 0, none⟩) q2.l.length c, .int .i64 q2.c, .int .i64 q2.lv, .int .i64 q2.st] 52 (0, 0)) ∧ b ≠ wb ∧ Tu w0 mb cb s 3 w f r m ∧ PtrBox w xbx 3 f ∧ RowBox w jb s ∧ RunBox w rbx r ∧ RV w w0.heap.size (agg4 (.slice (some ⟨g, 0, none⟩) q2.l.length c) q2.c q2.lv q2.st) q2 ∧
  w.heap[wb]? = some (.cells cs 52 (0, 0))
section
variable {w0 wr W w5 : World} {mb cb jb xbx rbx wb g c : Nat} {s : Ls} {f : Nat → Rec} {r : Nat → R5} {m : M} {q2 : R} {n2 e2 t2 : Int} {cs : Array Value}
theorem RowBox.kq {w w' : World} {b : Nat} (h : RowBox w b s) (hq : Kq w w') : RowBox w' b s := hq _ _ _ h (by decide)
theorem RowBox.oq {w w' : World} {b : Nat} (h : RowBox w b s) (hq : Oq w w') : RowBox w' b s := hq _ _ _ h (by decide)
theorem RunBox.only {w w' : World} {b b' : Nat} {cs : Array Value} {t : TypeId} (h : RunBox w b r) (k : Only w w' b') (hg : w.heap[b']? = some (.cells cs t (0, 0))) (ht : t ≠ 48) : RunBox w' b r := by
  obtain ⟨cs, q1, q2⟩ := h
  exact ⟨cs, (k.block b (blk_ne q1 hg (Ne.symm ht))).trans q1, q2⟩
theorem PtrBox.only {w w' : World} {b b' N : Nat} {cs : Array Value} {t : TypeId} (h : PtrBox w b N f) (k : Only w w' b') (hg : w.heap[b']? = some (.cells cs t (0, 0))) (ht : t ≠ 45) : PtrBox w' b N f := by
  obtain ⟨cs, q0, q1, q2⟩ := h
  exact ⟨cs, q0, (k.block b (blk_ne q1 hg (Ne.symm ht))).trans q1, q2⟩
theorem RowBox.only {w w' : World} {b b' : Nat} {cs : Array Value} {t : TypeId} (h : RowBox w b s) (k : Only w w' b') (hg : w.heap[b']? = some (.cells cs t (0, 0))) (ht : t ≠ 44) : RowBox w' b s := (k.block b (blk_ne h hg (Ne.symm ht))).trans h
theorem cutT (h : Tu w0 mb cb s 3 wr f r m) (h1 : PtrBox wr xbx 3 f) (h2 : RowBox wr jb s) (h3 : RunBox wr rbx r) (hq : Kq wr w5) (hB : Below w0.heap.size w0 w5) (hR : RV w5 w0.heap.size (agg4 (.slice (some ⟨g, 0, none⟩) q2.l.length c) q2.c q2.lv q2.st) q2) (hwb : wr.heap[wb]? = some (.cells cs 52 (0, 0)))
    {b : Nat} {a0 a1 a2 a3 : Value} (kb : w5.heap[b]? = some (.cells #[a0, a1, a2, a3] 52 (0, 0))) (hb0 : w0.heap.size ≤ b) (n1 : b ≠ wb) :
    CutT w0 mb cb jb xbx rbx wb s f r m q2 n2 e2 t2 cs (.pointer (some ⟨b, 0, none⟩)) (.int .i64 n2) (.int .i64 e2) (.int .i64 t2) (set4 w5 b (.slice (some ⟨g, 0, none⟩) q2.l.length c) (.int .i64 q2.c) (.int .i64 q2.lv) (.int .i64 q2.st)) := by
  have ho := only4 w5 b (.slice (some ⟨g, 0, none⟩) q2.l.length c) (.int .i64 q2.c) (.int .i64 q2.lv) (.int .i64 q2.st)
  have k1 := hq _ _ _ hwb (by decide)
  exact ⟨b, g, c, rfl, rfl, rfl, rfl, blk4 kb _ _ _ _, n1, (h.kq hq hB).only ho kb (by decide) hb0, (h1.kq hq).only ho kb (by decide), (h2.kq hq).only ho kb (by decide), (h3.kq hq).only ho kb (by decide), RV.only hR ho kb (by decide), (ho.block wb (Ne.symm n1)).trans k1⟩
end
set_option maxHeartbeats 6400000 in
set_option maxRecDepth 100000 in
theorem StepTurns_main (a : Int) (A0 A1 A2 At : Option Addr) (c0 c1 c2 ct : Nat) (l0 l1 l2 : List S57) (lt : List Int) (h0 : l0.length ≤ 40) (h1 : l1.length ≤ 40) (h2 : l2.length ≤ 40) (ht : lt.length ≤ 200) (ha : 0 ≤ a ∧ a ≤ 255) (w : World) (L : Nat → List S57) (A : Nat → Option Addr) (c : Nat → Nat) (hL : L = three l0 l1 l2) (hA : A = three A0 A1 A2) (hcc : c = three c0 c1 c2)
    (hR : ∀ j, j < 3 → Kd.C k57 w (A j) (L j).length (L j)) (hc : ∀ j, j < 3 → (L j).length ≤ c j) (h40 : ∀ j, j < 3 → (L j).length ≤ 40) (hf0 : ∀ j, j < 3 → ∀ i, 0 ≤ i → i < ((L j).length : Int) → 0 ≤ (rd_T57 (L j) i).f0 ∧ (rd_T57 (L j) i).f0 ≤ 255) (hT : RdB w At lt) (hT8 : ∀ r ∈ lt, 0 ≤ r ∧ r ≤ 255) :
    Calls Try.prog 4 #[.int .u8 a, .slice A0 l0.length c0, .slice A1 l1.length c1, .slice A2 l2.length c2, .slice At lt.length ct] w fun e w' => e = .returned (.bool true) ∧ Below w.heap.size w w' := by
  have g0 : decide ((40 : Int) < (l0.length : Int)) = false := decide_eq_false (by omega)
  have k0 : decide (40 < l0.length) = false := decide_eq_false (by omega)
  have g1 : decide ((40 : Int) < (l1.length : Int)) = false := decide_eq_false (by omega)
  have k1 : decide (40 < l1.length) = false := decide_eq_false (by omega)
  have g2 : decide ((40 : Int) < (l2.length : Int)) = false := decide_eq_false (by omega)
  have k2 : decide (40 < l2.length) = false := decide_eq_false (by omega)
  have g3 : decide ((200 : Int) < (lt.length : Int)) = false := decide_eq_false (by omega)
  have k3 : decide (200 < lt.length) = false := decide_eq_false (by omega)
  obtain ⟨n, hn⟩ : ∃ n : Nat, (n : Int) = 1 + a % 60 := ⟨(1 + a % 60).toNat, by omega⟩
  have hn1 : 1 ≤ n ∧ n ≤ 60 := by omega
  have HM := Lib.hid (memory_calls a ha n hn)
  have HR := Lib.hid hR
  have HF0 := Lib.hid hf0
  have HC := Lib.hid hc
  have HN := Lib.hid hn1
  have H40 := Lib.hid h40
  have HT := Lib.hid hT
  have HT8 := Lib.hid hT8
  have HLT := Lib.hid ht
  have HL := Lib.hid (And.intro hL (And.intro hA hcc))
  clear hn ha hR hf0 hc hn1 h40 hT hT8 ht h0 h1 h2 hL hA hcc
  go_enter Try.func4, Try.ntmps4
  go_wp2_with fail
  refine (awake13_calls w).mono ?_
  rintro e w1 ⟨rfl, hb1⟩
  have HB1 := Lib.hid hb1
  clear hb1
  go_wp2_with fail
  refine (HM.out w1).mono ?_
  rintro e w2 ⟨rfl, hA2, hb2⟩
  obtain ⟨mb, hmb⟩ : ∃ y, w1.heap.size + 1 = y := ⟨_, rfl⟩
  obtain ⟨cb, hcb⟩ : ∃ y, w1.heap.size = y := ⟨_, rfl⟩
  rw [hmb, hcb] at hA2
  rw [hmb]
  have hB2 := below_then HB1.out HB1.out.size hb2
  have hbm : w.heap.size ≤ mb ∧ w.heap.size ≤ cb := by have := HB1.out.size; omega
  obtain ⟨w3, hw3⟩ : ∃ y : World, y = w2.alloc (.cells #[.slice A0 l0.length c0, .slice A1 l1.length c1, .slice A2 l2.length c2] 44) := ⟨_, rfl⟩
  have hb3 : Below w2.heap.size w2 w3 := hw3 ▸ below_alloc (Below.refl _ _) _
  obtain ⟨jb, hjb⟩ : ∃ y, w2.heap.size = y := ⟨_, rfl⟩
  have hk3 : w3.heap[jb]? = some (.cells #[.slice A0 l0.length c0, .slice A1 l1.length c1, .slice A2 l2.length c2] 44 (0, 0)) := hjb ▸ hw3 ▸ blk_new _ _
  obtain ⟨w4, hw4⟩ : ∃ y : World, y = w3.alloc (.cells #[.pointer none, .pointer none, .pointer none] 45) := ⟨_, rfl⟩
  have hb4 : Below w3.heap.size w3 w4 := hw4 ▸ below_alloc (Below.refl _ _) _
  obtain ⟨xbx, hxbx⟩ : ∃ y, w3.heap.size = y := ⟨_, rfl⟩
  have hk4 : w4.heap[xbx]? = some (.cells #[.pointer none, .pointer none, .pointer none] 45 (0, 0)) := hxbx ▸ hw4 ▸ blk_new _ _
  obtain ⟨w5, hw5⟩ : ∃ y : World, y = w4.alloc (.cells #[.int .i64 0, .int .i64 0, .int .i64 0, .int .i64 0, .int .i64 0, .int .i64 0, .int .i64 0, .int .i64 0, .int .i64 0, .int .i64 0, .int .i64 0, .int .i64 0, .int .i64 0, .int .i64 0, .int .i64 0] 48) := ⟨_, rfl⟩
  have hb5 : Below w4.heap.size w4 w5 := hw5 ▸ below_alloc (Below.refl _ _) _
  obtain ⟨rbx, hrbx⟩ : ∃ y, w4.heap.size = y := ⟨_, rfl⟩
  have hk5 : w5.heap[rbx]? = some (.cells #[.int .i64 0, .int .i64 0, .int .i64 0, .int .i64 0, .int .i64 0, .int .i64 0, .int .i64 0, .int .i64 0, .int .i64 0, .int .i64 0, .int .i64 0, .int .i64 0, .int .i64 0, .int .i64 0, .int .i64 0] 48 (0, 0)) := hrbx ▸ hw5 ▸ blk_new _ _
  have hB3 := below_then hB2 hB2.size hb3
  have hB4 := below_then hB3 hB3.size hb4
  have hB5 := below_then hB4 hB4.size hb5
  have START := Lib.hid (show LoopT w mb cb n jb xbx rbx L A c (.int .i64 0) w5 from
    ⟨0, fun _ => ⟨⟨⟨M.new n, [], 0, 0, 0⟩, .nilIface, 0, false⟩, 0, 0, .slice none 0 0⟩, fun _ => 0, by omega, rfl, ⟨((hA2.below hb3).below hb4).below hb5, fun i hi => absurd hi (by omega), fun i hi => absurd hi (by omega), fun i j hi => absurd hi (by omega), fun i hi => absurd hi (by omega), hB5, hbm, fun i hi => absurd hi (by omega)⟩, ⟨_, rfl, blk_below hk4 hb5, fun j hj => absurd hj (by omega)⟩, by
      obtain ⟨e1, e2, e3⟩ := HL.out
      subst e1 e2 e3
      exact blk_below (blk_below hk3 hb4) hb5, ⟨_, hk5, fun j hj => by
      match j, hj with
      | 0, _ => exact ⟨rfl, rfl, rfl, rfl, rfl⟩
      | 1, _ => exact ⟨rfl, rfl, rfl, rfl, rfl⟩
      | 2, _ => exact ⟨rfl, rfl, rfl, rfl, rfl⟩⟩⟩)
  have HBX := Lib.hid (show w.heap.size ≤ jb ∧ w.heap.size ≤ xbx ∧ w.heap.size ≤ rbx from ⟨by have := hB2.size; omega, by have := hB3.size; omega, by have := hB4.size; omega⟩)
  have HW3 := Lib.hid hw3
  have HW4 := Lib.hid hw4
  have HW5 := Lib.hid hw5
  have HE := Lib.hid (And.intro hjb (And.intro hxbx hrbx))
  clear hb2 hw3 hb3 hjb hk3 hw4 hb4 hxbx hk4 hw5 hb5 hrbx hk5 hB2 hB3 hB4 hB5 hbm HB1 hA2 hmb hcb HM
  go_upto_region 7 with fail
  rw [← HW3.out, HE.out.1]
  clear HW3
  go_upto_region 8 with fail
  rw [← HW4.out, HE.out.2.1]
  clear HW4
  go_upto_region 9 with fail
  rw [← HW5.out, HE.out.2.2]
  clear HW5 HE
  go_wp2_with fail
  go_loopw [16] (fun i wr => LoopT w mb cb n jb xbx rbx L A c i wr) (fun i _ => 3 - (intOf i).toNat)
  case atStart => exact START.out
  case round =>
    obtain ⟨k, f, lb, hk, rfl, htu, hpb, hrw, hrn⟩ := hrel
    have HTU := Lib.hid htu
    have HPB := Lib.hid hpb
    have HRW := Lib.hid hrw
    have HRN := Lib.hid hrn
    clear htu hpb hrw hrn START
    by_cases hlt : k < 3
    · have gk : decide ((k : Int) < 3) = true := decide_eq_true (by omega)
      have d1 : decide ((k : Int) < 0) = false := decide_eq_false (by omega)
      have d2 : decide ((3 : Int) ≤ (k : Int)) = false := decide_eq_false (by omega)
      have d3 : decide (3 ≤ k) = false := decide_eq_false (by omega)
      have d5 : (k : Int) < 3 := by omega
      have j1 := HRW.out.cell hlt
      simp only at j1
      go_wp2_with fail
      refine (mkdoes_calls (.slice (A k) (L k).length (c k)) ⟨_, _, _, rfl⟩ wr).mono ?_
      rintro e w7 ⟨rfl, hlb, hb7⟩
      obtain ⟨lbk, hlbk⟩ : ∃ y, wr.heap.size = y := ⟨_, rfl⟩
      rw [hlbk] at hlb
      rw [hlbk]
      have HL7 := Lib.hid hlb
      have HB7 := Lib.hid hb7
      clear hlb hb7 hlbk
      go_wp2_with fail
      refine (mnew_calls mb 38 #[.pointer (some ⟨lbk, 0, none⟩)] w7).mono ?_
      rintro e w8 ⟨rfl, hp, hm, hb8⟩
      obtain ⟨xb, hxb⟩ : ∃ y, w7.heap.size + 1 = y := ⟨_, rfl⟩
      obtain ⟨pb, hpb⟩ : ∃ y, w7.heap.size = y := ⟨_, rfl⟩
      rw [hxb, hpb] at hm
      rw [hpb] at hp
      rw [hxb]
      have hb78 : Below wr.heap.size wr w8 := below_then HB7.out HB7.out.size hb8
      have htu8 := (HTU.out.lbs (lb := upd lb k lbk) (fun i hi => upd_ne _ _ (by omega))).more (w' := w8) (xb := xb) (pb := pb) (by show w8.heap[upd lb k lbk k]? = _; rw [upd_self]; exact blk_below HL7.out hb8) hp (by show MG w8 xb pb (fvD (upd lb k lbk k)) _ _ _; rw [upd_self]; exact hm) (by have := HB7.out.size; omega) (by have := HB7.out.size; omega) hb78
      rw [upd_const] at htu8
      have hpb8 := HPB.out.kq (Kq.of_below hb78)
      obtain ⟨cs8, hcs8⟩ := hpb8.ty
      obtain ⟨w9, hw9⟩ : ∃ y : World, y = w8.setCell ⟨xbx, k, none⟩ (ptr xb) := ⟨_, rfl⟩
      have hO9 : Only w8 w9 xbx := hw9 ▸ Only.set _ _ _
      have hpb9 := hw9 ▸ hpb8.set hlt (x := ⟨⟨⟨M.new n, [], 0, 0, 0⟩, .nilIface, 0, false⟩, xb, pb, .slice none 0 0⟩)
      have htu9 := htu8.only hO9 hcs8 (by decide) HBX.out.2.1
      have hrw8 := blk_below HRW.out hb78
      have hrw9 := (hO9.block jb (blk_ne hrw8 hcs8 (by decide))).trans hrw8
      have hrn8 := HRN.out.kq (Kq.of_below hb78)
      obtain ⟨cr8, hcr8⟩ := hrn8.ty
      have hrn9 : RunBox w9 rbx (fun _ => r0) := by
        obtain ⟨cs, q1, q2⟩ := hrn8
        exact ⟨cs, (hO9.block rbx (blk_ne hcr8 hcs8 (by decide))).trans q1, q2⟩
      have z0 := hpb8.frozen k
      obtain ⟨u0, x0⟩ := hpb8.there hlt
      have y0 := hpb9.cell (j := k) (by omega)
      rw [upd_self] at y0
      simp only at y0
      have NEXT := Lib.hid (show LoopT w mb cb n jb xbx rbx L A c (.int .i64 ((k + 1 : Nat) : Int)) w9 from ⟨k + 1, _, _, by omega, rfl, htu9, hpb9, hrw9, hrn9⟩)
      have HW9 := Lib.hid hw9
      clear hp hm hb8 hxb hpb hb78 htu8 hpb8 hcs8 hw9 hO9 hpb9 htu9 hrw8 hrw9 hrn8 hcr8 hrn9 HTU HPB HRW HRN HL7 HB7 j1
      go_upto_region 13 with fail
      rw [← HW9.out]
      clear HW9 z0 x0
      go_wp2_with fail
      go_roundw
      case rel => first | exact NEXT.out | (have hN := NEXT.out; go_num)
      case measure => simp [intOf]; omega
    · have gk : decide ((k : Int) < 3) = false := decide_eq_false (by omega)
      obtain rfl : k = 3 := by omega
      have HK := Lib.hid hlt
      have HLB := Lib.hid HTU.out.bm
      clear hlt hk gk
      go_wp2_with fail
      refine (rnew_calls n wr HN.out.1 (by have := HN.out.2; omega)).mono ?_
      rintro e w4 ⟨g, cq0, rfl, hR4, hb4⟩
      obtain ⟨w5, hw5⟩ : ∃ y : World, y = w4.alloc (.cells #[.slice (some ⟨g, 0, none⟩) n cq0, .int .i64 0, .int .i64 0, .int .i64 0] 52) := ⟨_, rfl⟩
      have hb5 : Below w4.heap.size w4 w5 := hw5 ▸ below_alloc (Below.refl _ _) _
      obtain ⟨wb, hwb⟩ : ∃ y, w4.heap.size = y := ⟨_, rfl⟩
      have hk5 : w5.heap[wb]? = some (.cells #[.slice (some ⟨g, 0, none⟩) n cq0, .int .i64 0, .int .i64 0, .int .i64 0] 52 (0, 0)) := hwb ▸ hw5 ▸ blk_new _ _
      have hb45 := below_then hb4 hb4.size hb5
      have HBW := Lib.hid (show w.heap.size ≤ wb from by have := HTU.out.B.size; have := hb4.size; omega)
      obtain ⟨s, hs⟩ : ∃ s : Ls, s = ⟨L, A, c, lb⟩ := ⟨_, rfl⟩
      have START := Lib.hid (show LoopU w mb cb jb xbx rbx wb lt.length s (.int .i64 0) w5 from ⟨0, f, fun _ => r0, M.new n, ⟨List.replicate n z108, 0, 0, 0⟩, _, Nat.zero_le _, rfl, hs ▸ HTU.out.below hb45, HPB.out.kq (Kq.of_below hb45), hs ▸ blk_below HRW.out hb45, HRN.out.kq (Kq.of_below hb45), Sim.start n, RV.move (RV.lower hR4 HTU.out.B.size) hb5, hk5⟩)
      have HW5 := Lib.hid hw5
      have HWB := Lib.hid hwb
      have HSS := Lib.hid hs
      clear hR4 hb4 hw5 hb5 hwb hk5 hb45 HTU HPB HRW HRN hs
      go_upto_region 16 with fail
      rw [← HW5.out, HWB.out]
      clear HW5 HWB
      go_wp2_with fail
      go_loopw [18] (fun i wr => LoopU w mb cb jb xbx rbx wb lt.length s i wr) (fun i _ => lt.length - (intOf i).toNat)
      case atStart => exact START.out
      case round =>
        obtain ⟨k, f, r, m, q, vr, hk, rfl, htu, hpb, hrw, hrn, hS, hRV, hK⟩ := hrel
        clear START
        have hlt200 := HLT.out
        by_cases htl : k < lt.length
        · have gt : decide ((k : Int) < (lt.length : Int)) = true := decide_eq_true (by omega)
          obtain ⟨at_, hAt, hcell, hadl⟩ := HT.out k htl
          subst hAt
          have hc2 := (htu.B.cell (p := at_.add k) (by unfold Addr.add; split <;> exact hadl)).trans hcell
          obtain ⟨x, hx⟩ : ∃ x, lt.getD k 0 = x := ⟨_, rfl⟩
          have hx8 : 0 ≤ x ∧ x ≤ 255 := by
            rw [← hx, List.getD_eq_getElem?_getD, List.getElem?_eq_getElem htl]
            exact HT8.out _ (List.getElem_mem _)
          rw [hx] at hc2
          obtain ⟨jj, hq⟩ : ∃ q : Nat, (q : Int) = x % 3 := ⟨(x % 3).toNat, by omega⟩
          have hj3 : jj < 3 := by omega
          have e1 : (wrap64 x).tmod 3 = (jj : Int) := by
            have : wrap64 x = x := by unfold wrap64; omega
            rw [this, Int.tmod_eq_emod_of_nonneg hx8.1, hq]
          have e2 : x % 3 = (jj : Int) := hq.symm
          have d1 : decide ((jj : Int) < 0) = false := decide_eq_false (by omega)
          have d2 : decide ((3 : Int) ≤ (jj : Int)) = false := decide_eq_false (by omega)
          have d3 : decide (3 ≤ jj) = false := decide_eq_false (by omega)
          have d5 : (jj : Int) < 3 := by omega
          have J0 := hrw.cell hj3
          obtain ⟨R0, R1, R2, R3, R4⟩ := hrn.cells hj3
          have X0 := hpb.cell hj3
          obtain ⟨rj, hrj⟩ : ∃ y, r jj = y := ⟨_, rfl⟩
          obtain ⟨lj, hlj⟩ : ∃ y, s.L jj = y := ⟨_, rfl⟩
          obtain ⟨Aj, hAj⟩ : ∃ y, s.A jj = y := ⟨_, rfl⟩
          obtain ⟨cj, hcj⟩ : ∃ y, s.c jj = y := ⟨_, rfl⟩
          obtain ⟨xj, hxj⟩ : ∃ y, (f jj).xb = y := ⟨_, rfl⟩
          obtain ⟨t1, t2, t3, t4⟩ := (htu.T jj hj3).facts
          rw [hrj] at R0 R1 R2 R3 R4 t3
          rw [hlj, hAj, hcj] at J0
          rw [hxj] at X0
          have hRj : Kd.C k57 w Aj lj.length lj := by
            have := HR.out jj hj3
            rw [← hlj, ← hAj, HSS.out]
            exact this
          have hcj' : lj.length ≤ cj := by
            have := HC.out jj hj3
            rw [← hlj, ← hcj, HSS.out]
            exact this
          have h40j : lj.length ≤ 40 := by
            have := H40.out jj hj3
            rw [← hlj, HSS.out]
            exact this
          have hf0j : ∀ i, 0 ≤ i → i < (lj.length : Int) → 0 ≤ (rd_T57 lj i).f0 ∧ (rd_T57 lj i).f0 ≤ 255 := by
            have := HF0.out jj hj3
            rw [← hlj, HSS.out]
            exact this
          have HTU := Lib.hid htu
          have HPB := Lib.hid hpb
          have HRW := Lib.hid hrw
          have HRN := Lib.hid hrn
          have HS := Lib.hid hS
          have HRV := Lib.hid hRV
          have HK := Lib.hid hK
          have HRJ := Lib.hid hRj
          have HCJ := Lib.hid hcj'
          have H40J := Lib.hid h40j
          have HF0J := Lib.hid hf0j
          have HEJ := Lib.hid (And.intro hrj (And.intro hlj (And.intro hAj (And.intro hcj hxj))))
          obtain ⟨q0, q1, q2, q3⟩ := box_cells hK
          clear htu hpb hrw hrn hS hRV hK hRj hcj' h40j hf0j hrj hlj hAj hcj hxj hcell hadl hx hq t1 t2 t4
          by_cases hlt : rj.a < (lj.length : Int)
          · have gr : decide (rj.a < (lj.length : Int)) = true := decide_eq_true hlt
            obtain ⟨ad, hAd, x0, x1, x2, x3, x4, x5⟩ := at_T57 HRJ.out rj.a t3 hlt
            obtain ⟨xk, hxk⟩ : ∃ y, rd_T57 lj rj.a = y := ⟨_, rfl⟩
            rw [hxk] at x0 x1 x2 x3 x4 x5
            have h08 : 0 ≤ xk.f0 ∧ xk.f0 ≤ 255 := hxk ▸ HF0J.out rj.a t3 hlt
            obtain ⟨q2_, n2, e2_, u2, ho⟩ : ∃ q2_ n2 e2 u2, oneR q xk rj.t = (q2_, n2, e2, u2) := ⟨_, _, _, _, rfl⟩
            have hcall := fun W hW => one_at (w := wr) (W := W) hW HTU.out.B HRV.out HS.out.gens xk h08 rj.t ho
            have HX := Lib.hid hxk
            have HO := Lib.hid ho
            have HCALL := Lib.hid hcall
            clear hxk ho hcall h08
            obtain ⟨gq, cq, tlq, eq, hv1, hv2, hv3, hv4, hv5⟩ := HRV.out.open
            clear hv1 hv2 hv3 hv4 hv5
            injection eq with eq
            obtain rfl : vr = .slice (some ⟨gq, 0, none⟩) q.l.length cq := by simpa using eq
            clear eq
            subst hAd
            obtain ⟨f0, f1, f2, f3, f4, f5⟩ := xk
            simp only at x0 x1 x2 x3 x4 x5
            go_upto_region 20 with fail
            go_quiet (fail)
            obtain ⟨W1, hW1⟩ : ∃ y, wr.drewN nq = y := ⟨_, rfl⟩
            rw [hW1]
            have hb1 : Below wr.heap.size wr W1 := hW1 ▸ pw_below_drewN (Below.refl _ _) nq
            have SOF := Lib.hid (show ∀ w', Kq wr w' → Below w.heap.size w w' → (w'.cell? ⟨wb, 0, none⟩ = some (.slice (some ⟨gq, 0, none⟩) q.l.length cq) ∧ w'.cell? ⟨wb, 1, none⟩ = some (.int .i64 q.c) ∧ w'.cell? ⟨wb, 2, none⟩ = some (.int .i64 q.lv) ∧ w'.cell? ⟨wb, 3, none⟩ = some (.int .i64 q.st) ∧ w'.cell? ⟨rbx, jj * 5, none⟩ = some (.int .i64 rj.a) ∧ w'.cell? ⟨rbx, jj * 5 + 1, none⟩ = some (.int .i64 rj.t) ∧ w'.cell? ⟨jb, jj, none⟩ = some (.slice (some ad) lj.length cj) ∧ w'.cell? (ad.add (rj.a.toNat * 6)) = some (.int .u8 f0) ∧ w'.cell? ⟨(ad.add (rj.a.toNat * 6)).block, (ad.add (rj.a.toNat * 6)).off + 1, none⟩ = some (.int .i64 f1) ∧ w'.cell? ⟨(ad.add (rj.a.toNat * 6)).block, (ad.add (rj.a.toNat * 6)).off + 2, none⟩ = some (.int .i64 f2) ∧ w'.cell? ⟨(ad.add (rj.a.toNat * 6)).block, (ad.add (rj.a.toNat * 6)).off + 3, none⟩ = some (.int .i64 f3) ∧ w'.cell? ⟨(ad.add (rj.a.toNat * 6)).block, (ad.add (rj.a.toNat * 6)).off + 4, none⟩ = some (.bool f4) ∧ w'.cell? ⟨(ad.add (rj.a.toNat * 6)).block, (ad.add (rj.a.toNat * 6)).off + 5, none⟩ = some (.bool f5) ∧ Kq wr w' ∧ Below w.heap.size w w') from by
              intro w' k1 k2
              obtain ⟨r0_, r1_, r2_, r3_, r4_⟩ := (HRN.out.kq k1).cells hj3
              rw [HEJ.out.1] at r0_ r1_
              obtain ⟨q0, q1, q2, q3⟩ := box_cells (k1 _ _ _ HK.out (by decide))
              have j0 := (HRW.out.kq k1).cell hj3
              rw [HEJ.out.2.1, HEJ.out.2.2.1, HEJ.out.2.2.2.1] at j0
              exact ⟨q0, q1, q2, q3, r0_, r1_, j0, cell_at0 k2 x0, cell_at0 k2 x1, cell_at0 k2 x2, cell_at0 k2 x3, cell_at0 k2 x4, cell_at0 k2 x5, k1, k2⟩)
            have hb2 : Below wr.heap.size wr (W1.drewN 1) := pw_below_drewN hb1 1
            have KF := Lib.hid (SOF.out (W1.drewN 1) (Kq.of_below hb2) (below_then HTU.out.B HTU.out.B.size hb2))
            have HB2 := Lib.hid hb2
            clear hW1 hb1 hb2 q0 q1 q2 q3 x0 x1 x2 x3 x4 x5 R0 R1 R2 R3 R4 J0 X0 hc2
            go_upto_region 21 with fail
            go_cut [20, 21, 22, 23] (fun s20 s21 s22 s23 wx => CutT w mb cb jb xbx rbx wb s f r m q2_ n2 e2_ u2 #[.slice (some ⟨gq, 0, none⟩) q.l.length cq, .int .i64 q.c, .int .i64 q.lv, .int .i64 q.st] s20 s21 s22 s23 wx)
            case first =>
              refine start_ (n := 25) (S := fun w' => w'.cell? ⟨wb, 0, none⟩ = some (.slice (some ⟨gq, 0, none⟩) q.l.length cq) ∧ w'.cell? ⟨wb, 1, none⟩ = some (.int .i64 q.c) ∧ w'.cell? ⟨wb, 2, none⟩ = some (.int .i64 q.lv) ∧ w'.cell? ⟨wb, 3, none⟩ = some (.int .i64 q.st) ∧ w'.cell? ⟨rbx, jj * 5, none⟩ = some (.int .i64 rj.a) ∧ w'.cell? ⟨rbx, jj * 5 + 1, none⟩ = some (.int .i64 rj.t) ∧ w'.cell? ⟨jb, jj, none⟩ = some (.slice (some ad) lj.length cj) ∧ w'.cell? (ad.add (rj.a.toNat * 6)) = some (.int .u8 f0) ∧ w'.cell? ⟨(ad.add (rj.a.toNat * 6)).block, (ad.add (rj.a.toNat * 6)).off + 1, none⟩ = some (.int .i64 f1) ∧ w'.cell? ⟨(ad.add (rj.a.toNat * 6)).block, (ad.add (rj.a.toNat * 6)).off + 2, none⟩ = some (.int .i64 f2) ∧ w'.cell? ⟨(ad.add (rj.a.toNat * 6)).block, (ad.add (rj.a.toNat * 6)).off + 3, none⟩ = some (.int .i64 f3) ∧ w'.cell? ⟨(ad.add (rj.a.toNat * 6)).block, (ad.add (rj.a.toNat * 6)).off + 4, none⟩ = some (.bool f4) ∧ w'.cell? ⟨(ad.add (rj.a.toNat * 6)).block, (ad.add (rj.a.toNat * 6)).off + 5, none⟩ = some (.bool f5) ∧ Kq wr w' ∧ Below w.heap.size w w') (ds := [21]) #[false, false, false, false, false, false, false, false, false, false, false, false, false, false, false, false, false, false, false, false, false, false, false, false, false] rfl rfl rfl (KF.out) ?_
              intro hHeld
              refine take_ (i := 0) (N := some 101) (v := ?_) (a' := ?_) #[true, false, false, false, false, false, false, false, false, false, false, false, false, false, false, false, false, false, false, false, false, false, false, false, false] rfl rfl (by kernel_rfl) (fun _ _ _ h => h) (Or.inl ⟨by rfl, ?_⟩) hHeld ?_ ?_
              rotate_left
              · rintro w' hHeld'
                have hHeld'' := hHeld'
                (try obtain ⟨r0_, r1_⟩ := hHeld')
                (try obtain ⟨r1_, r2_⟩ := r1_)
                (try obtain ⟨r2_, r3_⟩ := r2_)
                (try obtain ⟨r3_, r4_⟩ := r3_)
                (try obtain ⟨r4_, r5_⟩ := r4_)
                (try obtain ⟨r5_, r6_⟩ := r5_)
                (try obtain ⟨r6_, r7_⟩ := r6_)
                (try obtain ⟨r7_, r8_⟩ := r7_)
                (try obtain ⟨r8_, r9_⟩ := r8_)
                (try obtain ⟨r9_, r10_⟩ := r9_)
                (try obtain ⟨r10_, r11_⟩ := r10_)
                (try obtain ⟨r11_, r12_⟩ := r11_)
                (try obtain ⟨r12_, r13_⟩ := r12_)
                (try obtain ⟨r13_, r14_⟩ := r13_)
                go_simp
                with_reducible rfl
              rotate_left
              · simp only [Act.put, List.setIfInBounds_toArray, List.set_cons_zero, List.set_cons_succ, i64_w, i32_w]
                rfl
              refine pure_ (i := 1) (N := some 102) (v := ?_) (a' := ?_) #[true, true, false, false, false, false, false, false, false, false, false, false, false, false, false, false, false, false, false, false, false, false, false, false, false] rfl rfl (by kernel_rfl) (fun _ _ _ h => h) (Or.inl ⟨by rfl, ?_⟩) ?_ ?_
              rotate_left
              · intro w'
                go_simp
                with_reducible rfl
              rotate_left
              · simp only [Act.put, List.setIfInBounds_toArray, List.set_cons_zero, List.set_cons_succ, i64_w, i32_w]
                rfl
              refine pure_ (i := 2) (N := some 103) (v := ?_) (a' := ?_) #[true, true, true, false, false, false, false, false, false, false, false, false, false, false, false, false, false, false, false, false, false, false, false, false, false] rfl rfl (by kernel_rfl) (fun _ _ _ h => h) (Or.inl ⟨by rfl, ?_⟩) ?_ ?_
              rotate_left
              · intro w'
                go_simp
                with_reducible rfl
              rotate_left
              · simp only [Act.put, List.setIfInBounds_toArray, List.set_cons_zero, List.set_cons_succ, i64_w, i32_w]
                rfl
              refine take_ (i := 3) (N := some 104) (v := ?_) (a' := ?_) #[true, true, true, true, false, false, false, false, false, false, false, false, false, false, false, false, false, false, false, false, false, false, false, false, false] rfl rfl (by kernel_rfl) (fun _ _ _ h => h) (Or.inl ⟨by rfl, ?_⟩) hHeld ?_ ?_
              rotate_left
              · rintro w' hHeld'
                have hHeld'' := hHeld'
                (try obtain ⟨r0_, r1_⟩ := hHeld')
                (try obtain ⟨r1_, r2_⟩ := r1_)
                (try obtain ⟨r2_, r3_⟩ := r2_)
                (try obtain ⟨r3_, r4_⟩ := r3_)
                (try obtain ⟨r4_, r5_⟩ := r4_)
                (try obtain ⟨r5_, r6_⟩ := r5_)
                (try obtain ⟨r6_, r7_⟩ := r6_)
                (try obtain ⟨r7_, r8_⟩ := r7_)
                (try obtain ⟨r8_, r9_⟩ := r8_)
                (try obtain ⟨r9_, r10_⟩ := r9_)
                (try obtain ⟨r10_, r11_⟩ := r10_)
                (try obtain ⟨r11_, r12_⟩ := r11_)
                (try obtain ⟨r12_, r13_⟩ := r12_)
                (try obtain ⟨r13_, r14_⟩ := r13_)
                go_simp
                with_reducible rfl
              rotate_left
              · simp only [Act.put, List.setIfInBounds_toArray, List.set_cons_zero, List.set_cons_succ, i64_w, i32_w]
                rfl
              refine pure_ (i := 4) (N := some 105) (v := ?_) (a' := ?_) #[true, true, true, true, true, false, false, false, false, false, false, false, false, false, false, false, false, false, false, false, false, false, false, false, false] rfl rfl (by kernel_rfl) (fun _ _ _ h => h) (Or.inl ⟨by rfl, ?_⟩) ?_ ?_
              rotate_left
              · intro w'
                go_simp
                with_reducible rfl
              rotate_left
              · simp only [Act.put, List.setIfInBounds_toArray, List.set_cons_zero, List.set_cons_succ, i64_w, i32_w]
                rfl
              refine pure_ (i := 5) (N := some 106) (v := ?_) (a' := ?_) #[true, true, true, true, true, true, false, false, false, false, false, false, false, false, false, false, false, false, false, false, false, false, false, false, false] rfl rfl (by kernel_rfl) (fun _ _ _ h => h) (Or.inl ⟨by rfl, ?_⟩) ?_ ?_
              rotate_left
              · intro w'
                go_simp
                with_reducible rfl
              rotate_left
              · simp only [Act.put, List.setIfInBounds_toArray, List.set_cons_zero, List.set_cons_succ, i64_w, i32_w]
                rfl
              refine pure_ (i := 6) (N := some 107) (v := ?_) (a' := ?_) #[true, true, true, true, true, true, true, false, false, false, false, false, false, false, false, false, false, false, false, false, false, false, false, false, false] rfl rfl (by kernel_rfl) (fun _ _ _ h => h) (Or.inl ⟨by rfl, ?_⟩) ?_ ?_
              rotate_left
              · intro w'
                go_simp
                with_reducible rfl
              rotate_left
              · simp only [Act.put, List.setIfInBounds_toArray, List.set_cons_zero, List.set_cons_succ, i64_w, i32_w]
                rfl
              refine take_ (i := 7) (N := some 108) (v := ?_) (a' := ?_) #[true, true, true, true, true, true, true, true, false, false, false, false, false, false, false, false, false, false, false, false, false, false, false, false, false] rfl rfl (by kernel_rfl) (fun _ _ _ h => h) (Or.inl ⟨by rfl, ?_⟩) hHeld ?_ ?_
              rotate_left
              · rintro w' hHeld'
                have hHeld'' := hHeld'
                (try obtain ⟨r0_, r1_⟩ := hHeld')
                (try obtain ⟨r1_, r2_⟩ := r1_)
                (try obtain ⟨r2_, r3_⟩ := r2_)
                (try obtain ⟨r3_, r4_⟩ := r3_)
                (try obtain ⟨r4_, r5_⟩ := r4_)
                (try obtain ⟨r5_, r6_⟩ := r5_)
                (try obtain ⟨r6_, r7_⟩ := r6_)
                (try obtain ⟨r7_, r8_⟩ := r7_)
                (try obtain ⟨r8_, r9_⟩ := r8_)
                (try obtain ⟨r9_, r10_⟩ := r9_)
                (try obtain ⟨r10_, r11_⟩ := r10_)
                (try obtain ⟨r11_, r12_⟩ := r11_)
                (try obtain ⟨r12_, r13_⟩ := r12_)
                (try obtain ⟨r13_, r14_⟩ := r13_)
                go_simp
                with_reducible rfl
              rotate_left
              · simp only [Act.put, List.setIfInBounds_toArray, List.set_cons_zero, List.set_cons_succ, i64_w, i32_w]
                rfl
              refine pure_ (i := 8) (N := some 109) (v := ?_) (a' := ?_) #[true, true, true, true, true, true, true, true, true, false, false, false, false, false, false, false, false, false, false, false, false, false, false, false, false] rfl rfl (by kernel_rfl) (fun _ _ _ h => h) (Or.inl ⟨by rfl, ?_⟩) ?_ ?_
              rotate_left
              · intro w'
                go_simp
                with_reducible rfl
              rotate_left
              · simp only [Act.put, List.setIfInBounds_toArray, List.set_cons_zero, List.set_cons_succ, i64_w, i32_w]
                rfl
              refine take_ (i := 9) (N := some 110) (v := ?_) (a' := ?_) #[true, true, true, true, true, true, true, true, true, true, false, false, false, false, false, false, false, false, false, false, false, false, false, false, false] rfl rfl (by kernel_rfl) (fun _ _ _ h => h) (Or.inl ⟨by rfl, ?_⟩) hHeld ?_ ?_
              rotate_left
              · rintro w' hHeld'
                have hHeld'' := hHeld'
                (try obtain ⟨r0_, r1_⟩ := hHeld')
                (try obtain ⟨r1_, r2_⟩ := r1_)
                (try obtain ⟨r2_, r3_⟩ := r2_)
                (try obtain ⟨r3_, r4_⟩ := r3_)
                (try obtain ⟨r4_, r5_⟩ := r4_)
                (try obtain ⟨r5_, r6_⟩ := r5_)
                (try obtain ⟨r6_, r7_⟩ := r6_)
                (try obtain ⟨r7_, r8_⟩ := r7_)
                (try obtain ⟨r8_, r9_⟩ := r8_)
                (try obtain ⟨r9_, r10_⟩ := r9_)
                (try obtain ⟨r10_, r11_⟩ := r10_)
                (try obtain ⟨r11_, r12_⟩ := r11_)
                (try obtain ⟨r12_, r13_⟩ := r12_)
                (try obtain ⟨r13_, r14_⟩ := r13_)
                go_simp
                with_reducible rfl
              rotate_left
              · simp only [Act.put, List.setIfInBounds_toArray, List.set_cons_zero, List.set_cons_succ, i64_w, i32_w]
                rfl
              refine pure_ (i := 10) (N := some 111) (v := ?_) (a' := ?_) #[true, true, true, true, true, true, true, true, true, true, true, false, false, false, false, false, false, false, false, false, false, false, false, false, false] rfl rfl (by kernel_rfl) (fun _ _ _ h => h) (Or.inl ⟨by rfl, ?_⟩) ?_ ?_
              rotate_left
              · intro w'
                go_simp
                with_reducible rfl
              rotate_left
              · simp only [Act.put, List.setIfInBounds_toArray, List.set_cons_zero, List.set_cons_succ, i64_w, i32_w]
                rfl
              refine pure_ (i := 11) (N := some 112) (v := ?_) (a' := ?_) #[true, true, true, true, true, true, true, true, true, true, true, true, false, false, false, false, false, false, false, false, false, false, false, false, false] rfl rfl (by kernel_rfl) (fun _ _ _ h => h) (Or.inl ⟨by rfl, ?_⟩) ?_ ?_
              rotate_left
              · intro w'
                go_simp
                with_reducible rfl
              rotate_left
              · simp only [Act.put, List.setIfInBounds_toArray, List.set_cons_zero, List.set_cons_succ, i64_w, i32_w]
                rfl
              refine pure_ (i := 12) (N := some 113) (v := ?_) (a' := ?_) #[true, true, true, true, true, true, true, true, true, true, true, true, true, false, false, false, false, false, false, false, false, false, false, false, false] rfl rfl (by kernel_rfl) (fun _ _ _ h => h) (Or.inl ⟨by rfl, ?_⟩) ?_ ?_
              rotate_left
              · intro w'
                go_simp
                with_reducible rfl
              rotate_left
              · simp only [Act.put, List.setIfInBounds_toArray, List.set_cons_zero, List.set_cons_succ, i64_w, i32_w]
                rfl
              refine take_ (i := 13) (N := some 114) (v := ?_) (a' := ?_) #[true, true, true, true, true, true, true, true, true, true, true, true, true, true, false, false, false, false, false, false, false, false, false, false, false] rfl rfl (by kernel_rfl) (fun _ _ _ h => h) (Or.inl ⟨by rfl, ?_⟩) hHeld ?_ ?_
              rotate_left
              · rintro w' hHeld'
                have hHeld'' := hHeld'
                (try obtain ⟨r0_, r1_⟩ := hHeld')
                (try obtain ⟨r1_, r2_⟩ := r1_)
                (try obtain ⟨r2_, r3_⟩ := r2_)
                (try obtain ⟨r3_, r4_⟩ := r3_)
                (try obtain ⟨r4_, r5_⟩ := r4_)
                (try obtain ⟨r5_, r6_⟩ := r5_)
                (try obtain ⟨r6_, r7_⟩ := r6_)
                (try obtain ⟨r7_, r8_⟩ := r7_)
                (try obtain ⟨r8_, r9_⟩ := r8_)
                (try obtain ⟨r9_, r10_⟩ := r9_)
                (try obtain ⟨r10_, r11_⟩ := r10_)
                (try obtain ⟨r11_, r12_⟩ := r11_)
                (try obtain ⟨r12_, r13_⟩ := r12_)
                (try obtain ⟨r13_, r14_⟩ := r13_)
                go_simp
                with_reducible rfl
              rotate_left
              · simp only [Act.put, List.setIfInBounds_toArray, List.set_cons_zero, List.set_cons_succ, i64_w, i32_w]
                rfl
              refine two_ (i := 14) (j := 20) (Ni := some 115) (Nj := some 20) #[true, true, true, true, true, true, true, true, true, true, true, true, true, true, true, false, false, false, false, false, false, false, false, false, false] #[true, true, true, true, true, true, true, true, true, true, true, true, true, true, false, false, false, false, false, false, true, false, false, false, false] rfl rfl rfl rfl (by kernel_rfl) (by decide) (by decide) (fun K hSh => ?_) (fun K hSh => ?_)
              · refine goes_ Try.func20 (by kernel_rfl) rfl #[agg4 (.slice (some ⟨gq, 0, none⟩) q.l.length cq) q.c q.lv q.st, .agg (askV ⟨f0, f1, f2, f3, f4, f5⟩), .int .i64 rj.t] (by rfl) rfl rfl (by (try simp only [List.map_toArray, List.map_cons, List.map_nil]); rfl) ?_
                refine (HCALL.out _ HB2.out).mono ?_
                rintro e w5 ⟨g5, c5, rfl, hR5, hB5, hK5⟩
                have hKw : Kq wr w5 := (Kq.of_below HB2.out).trans hK5
                refine ⟨_, rfl, hSh.out _ _ (SOF.out _ hKw hB5) ?_⟩
                clear hHeld hSh
                intro hHeld
                refine norm_ (a' := ?_) ?_ ?_
                rotate_left
                · simp only [Act.put, List.setIfInBounds_toArray, List.set_cons_zero, List.set_cons_succ, i64_w, i32_w]
                  rfl
                refine pure_ (i := 15) (N := some 100) (v := ?_) (a' := ?_) #[true, true, true, true, true, true, true, true, true, true, true, true, true, true, true, true, false, false, false, false, false, false, false, false, false] rfl rfl (by kernel_rfl) (fun _ _ _ h => h) (Or.inl ⟨by rfl, ?_⟩) ?_ ?_
                rotate_left
                · intro w'
                  go_simp
                  with_reducible rfl
                rotate_left
                · simp only [Act.put, List.setIfInBounds_toArray, List.set_cons_zero, List.set_cons_succ, i64_w, i32_w]
                  rfl
                refine pure_ (i := 16) (N := some 116) (v := ?_) (a' := ?_) #[true, true, true, true, true, true, true, true, true, true, true, true, true, true, true, true, true, false, false, false, false, false, false, false, false] rfl rfl (by kernel_rfl) (fun _ _ _ h => h) (Or.inl ⟨by rfl, ?_⟩) ?_ ?_
                rotate_left
                · intro w'
                  go_simp
                  with_reducible rfl
                rotate_left
                · simp only [Act.put, List.setIfInBounds_toArray, List.set_cons_zero, List.set_cons_succ, i64_w, i32_w]
                  rfl
                refine pure_ (i := 17) (N := some 117) (v := ?_) (a' := ?_) #[true, true, true, true, true, true, true, true, true, true, true, true, true, true, true, true, true, true, false, false, false, false, false, false, false] rfl rfl (by kernel_rfl) (fun _ _ _ h => h) (Or.inl ⟨by rfl, ?_⟩) ?_ ?_
                rotate_left
                · intro w'
                  go_simp
                  with_reducible rfl
                rotate_left
                · simp only [Act.put, List.setIfInBounds_toArray, List.set_cons_zero, List.set_cons_succ, i64_w, i32_w]
                  rfl
                refine pure_ (i := 18) (N := some 118) (v := ?_) (a' := ?_) #[true, true, true, true, true, true, true, true, true, true, true, true, true, true, true, true, true, true, true, false, false, false, false, false, false] rfl rfl (by kernel_rfl) (fun _ _ _ h => h) (Or.inl ⟨by rfl, ?_⟩) ?_ ?_
                rotate_left
                · intro w'
                  go_simp
                  with_reducible rfl
                rotate_left
                · simp only [Act.put, List.setIfInBounds_toArray, List.set_cons_zero, List.set_cons_succ, i64_w, i32_w]
                  rfl
                refine pure_ (i := 19) (N := some 119) (v := ?_) (a' := ?_) #[true, true, true, true, true, true, true, true, true, true, true, true, true, true, true, true, true, true, true, true, false, false, false, false, false] rfl rfl (by kernel_rfl) (fun _ _ _ h => h) (Or.inl ⟨by rfl, ?_⟩) ?_ ?_
                rotate_left
                · intro w'
                  go_simp
                  with_reducible rfl
                rotate_left
                · simp only [Act.put, List.setIfInBounds_toArray, List.set_cons_zero, List.set_cons_succ, i64_w, i32_w]
                  rfl
                refine one_ (i := 20) (N := some 20) #[true, true, true, true, true, true, true, true, true, true, true, true, true, true, true, true, true, true, true, true, true, false, false, false, false] rfl rfl (by kernel_rfl) (by decide) (fun K hSh => ?_)
                refine value_ (v := .pointer (some ⟨w5.heap.size, 0, none⟩)) (w1 := w5.alloc (.cells #[.slice none 0 0, .int .i64 0, .int .i64 0, .int .i64 0] 52)) (by rfl) rfl (by go_simp <;> rfl) ?_
                obtain ⟨W6, hW6⟩ : ∃ y : World, y = w5.alloc (.cells #[.slice none 0 0, .int .i64 0, .int .i64 0, .int .i64 0] 52) := ⟨_, rfl⟩
                rw [← hW6]
                have hb6 : Below w5.heap.size w5 W6 := hW6 ▸ below_alloc (Below.refl _ _) _
                have kb : W6.heap[w5.heap.size]? = some (.cells #[.slice none 0 0, .int .i64 0, .int .i64 0, .int .i64 0] 52 (0, 0)) := hW6 ▸ blk_new _ _
                refine hSh.out _ _ (SOF.out _ (hKw.trans (Kq.of_below hb6)) (below_then hB5 hB5.size hb6)) ?_
                clear hHeld hSh
                intro hHeld
                refine norm_ (a' := ?_) ?_ ?_
                rotate_left
                · simp only [Act.put, List.setIfInBounds_toArray, List.set_cons_zero, List.set_cons_succ, i64_w, i32_w]
                  rfl
                obtain ⟨p0, p1, p2, p3⟩ := box_cells kb
                have t0 := blk_frozen kb 0
                have t1 := blk_frozen kb 1
                have t2 := blk_frozen kb 2
                have t3_ := blk_frozen kb 3
                have FIN := Lib.hid (cutT (n2 := n2) (e2 := e2_) (t2 := u2) HTU.out HPB.out HRW.out HRN.out (hKw.trans (Kq.of_below hb6)) (below_then hB5 hB5.size hb6) (hR5.move hb6) HK.out kb hB5.size (by have := blk_lt (hKw _ _ _ HK.out (by decide)); omega))
                clear hHeld hW6 hb6 kb hR5 hB5 hK5 hKw
                refine last_ (i := 21) (N := none) #[true, true, true, true, true, true, true, true, true, true, true, true, true, true, true, true, true, true, true, true, true, true, false, false, false] rfl rfl (by kernel_rfl) (by decide) (fun K hSh => ?_)
                refine skip_ (w1 := set4 W6 w5.heap.size (.slice (some ⟨g5, 0, none⟩) q2_.l.length c5) (.int .i64 q2_.c) (.int .i64 q2_.lv) (.int .i64 q2_.st)) (by rfl) rfl (by go_simp <;> rfl) ?_
                refine hSh.out _ _ ?_
                refine pure_ (i := 22) (N := some 21) (v := ?_) (a' := ?_) #[true, true, true, true, true, true, true, true, true, true, true, true, true, true, true, true, true, true, true, true, true, true, true, false, false] rfl rfl (by kernel_rfl) (fun _ _ _ h => h) (Or.inl ⟨by rfl, ?_⟩) ?_ ?_
                rotate_left
                · intro w'
                  go_simp
                  with_reducible rfl
                rotate_left
                · simp only [Act.put, List.setIfInBounds_toArray, List.set_cons_zero, List.set_cons_succ, i64_w, i32_w]
                  rfl
                refine pure_ (i := 23) (N := some 22) (v := ?_) (a' := ?_) #[true, true, true, true, true, true, true, true, true, true, true, true, true, true, true, true, true, true, true, true, true, true, true, true, false] rfl rfl (by kernel_rfl) (fun _ _ _ h => h) (Or.inl ⟨by rfl, ?_⟩) ?_ ?_
                rotate_left
                · intro w'
                  go_simp
                  with_reducible rfl
                rotate_left
                · simp only [Act.put, List.setIfInBounds_toArray, List.set_cons_zero, List.set_cons_succ, i64_w, i32_w]
                  rfl
                refine pure_ (i := 24) (N := some 23) (v := ?_) (a' := ?_) #[true, true, true, true, true, true, true, true, true, true, true, true, true, true, true, true, true, true, true, true, true, true, true, true, true] rfl rfl (by kernel_rfl) (fun _ _ _ h => h) (Or.inl ⟨by rfl, ?_⟩) ?_ ?_
                rotate_left
                · intro w'
                  go_simp
                  with_reducible rfl
                rotate_left
                · simp only [Act.put, List.setIfInBounds_toArray, List.set_cons_zero, List.set_cons_succ, i64_w, i32_w]
                  rfl
                refine done_ (by kernel_rfl) ?_
                go_wp2_with fail
                go_meet
                exact FIN.out
              · refine value_ (v := .pointer (some ⟨W1.heap.size, 0, none⟩)) (w1 := (W1.drewN 1).alloc (.cells #[.slice none 0 0, .int .i64 0, .int .i64 0, .int .i64 0] 52)) (by rfl) rfl (by go_simp <;> rfl) ?_
                obtain ⟨W6, hW6⟩ : ∃ y : World, y = (W1.drewN 1).alloc (.cells #[.slice none 0 0, .int .i64 0, .int .i64 0, .int .i64 0] 52) := ⟨_, rfl⟩
                rw [← hW6]
                have hb6 : Below wr.heap.size wr W6 := hW6 ▸ below_alloc HB2.out _
                have kb : W6.heap[W1.heap.size]? = some (.cells #[.slice none 0 0, .int .i64 0, .int .i64 0, .int .i64 0] 52 (0, 0)) := hW6 ▸ blk_new (W1.drewN 1) _
                have hn1 : wr.heap.size ≤ W1.heap.size := HB2.out.size
                refine hSh.out _ _ (SOF.out _ (Kq.of_below hb6) (below_then HTU.out.B HTU.out.B.size hb6)) ?_
                clear hHeld hSh hW6
                intro hHeld
                refine norm_ (a' := ?_) ?_ ?_
                rotate_left
                · simp only [Act.put, List.setIfInBounds_toArray, List.set_cons_zero, List.set_cons_succ, i64_w, i32_w]
                  rfl
                refine one_ (i := 14) (N := some 115) #[true, true, true, true, true, true, true, true, true, true, true, true, true, true, true, false, false, false, false, false, true, false, false, false, false] rfl rfl (by kernel_rfl) (by decide) (fun K hSh => ?_)
                refine goes_ Try.func20 (by kernel_rfl) rfl #[agg4 (.slice (some ⟨gq, 0, none⟩) q.l.length cq) q.c q.lv q.st, .agg (askV ⟨f0, f1, f2, f3, f4, f5⟩), .int .i64 rj.t] (by rfl) rfl rfl (by (try simp only [List.map_toArray, List.map_cons, List.map_nil]); rfl) ?_
                refine (HCALL.out _ hb6).mono ?_
                rintro e w5 ⟨g5, c5, rfl, hR5, hB5, hK5⟩
                have hKw : Kq wr w5 := (Kq.of_below hb6).trans hK5
                refine ⟨_, rfl, hSh.out _ _ (SOF.out _ hKw hB5) ?_⟩
                clear hHeld hSh
                intro hHeld
                refine norm_ (a' := ?_) ?_ ?_
                rotate_left
                · simp only [Act.put, List.setIfInBounds_toArray, List.set_cons_zero, List.set_cons_succ, i64_w, i32_w]
                  rfl
                refine pure_ (i := 15) (N := some 100) (v := ?_) (a' := ?_) #[true, true, true, true, true, true, true, true, true, true, true, true, true, true, true, true, false, false, false, false, true, false, false, false, false] rfl rfl (by kernel_rfl) (fun _ _ _ h => h) (Or.inl ⟨by rfl, ?_⟩) ?_ ?_
                rotate_left
                · intro w'
                  go_simp
                  with_reducible rfl
                rotate_left
                · simp only [Act.put, List.setIfInBounds_toArray, List.set_cons_zero, List.set_cons_succ, i64_w, i32_w]
                  rfl
                refine pure_ (i := 16) (N := some 116) (v := ?_) (a' := ?_) #[true, true, true, true, true, true, true, true, true, true, true, true, true, true, true, true, true, false, false, false, true, false, false, false, false] rfl rfl (by kernel_rfl) (fun _ _ _ h => h) (Or.inl ⟨by rfl, ?_⟩) ?_ ?_
                rotate_left
                · intro w'
                  go_simp
                  with_reducible rfl
                rotate_left
                · simp only [Act.put, List.setIfInBounds_toArray, List.set_cons_zero, List.set_cons_succ, i64_w, i32_w]
                  rfl
                refine pure_ (i := 17) (N := some 117) (v := ?_) (a' := ?_) #[true, true, true, true, true, true, true, true, true, true, true, true, true, true, true, true, true, true, false, false, true, false, false, false, false] rfl rfl (by kernel_rfl) (fun _ _ _ h => h) (Or.inl ⟨by rfl, ?_⟩) ?_ ?_
                rotate_left
                · intro w'
                  go_simp
                  with_reducible rfl
                rotate_left
                · simp only [Act.put, List.setIfInBounds_toArray, List.set_cons_zero, List.set_cons_succ, i64_w, i32_w]
                  rfl
                refine pure_ (i := 18) (N := some 118) (v := ?_) (a' := ?_) #[true, true, true, true, true, true, true, true, true, true, true, true, true, true, true, true, true, true, true, false, true, false, false, false, false] rfl rfl (by kernel_rfl) (fun _ _ _ h => h) (Or.inl ⟨by rfl, ?_⟩) ?_ ?_
                rotate_left
                · intro w'
                  go_simp
                  with_reducible rfl
                rotate_left
                · simp only [Act.put, List.setIfInBounds_toArray, List.set_cons_zero, List.set_cons_succ, i64_w, i32_w]
                  rfl
                refine pure_ (i := 19) (N := some 119) (v := ?_) (a' := ?_) #[true, true, true, true, true, true, true, true, true, true, true, true, true, true, true, true, true, true, true, true, true, false, false, false, false] rfl rfl (by kernel_rfl) (fun _ _ _ h => h) (Or.inl ⟨by rfl, ?_⟩) ?_ ?_
                rotate_left
                · intro w'
                  go_simp
                  with_reducible rfl
                rotate_left
                · simp only [Act.put, List.setIfInBounds_toArray, List.set_cons_zero, List.set_cons_succ, i64_w, i32_w]
                  rfl
                have kb5 := hK5 _ _ _ kb (by decide)
                obtain ⟨p0, p1, p2, p3⟩ := box_cells kb5
                have t0 := blk_frozen kb5 0
                have t1 := blk_frozen kb5 1
                have t2 := blk_frozen kb5 2
                have t3_ := blk_frozen kb5 3
                have FIN := Lib.hid (cutT (n2 := n2) (e2 := e2_) (t2 := u2) HTU.out HPB.out HRW.out HRN.out hKw hB5 hR5 HK.out kb5 (Nat.le_trans HTU.out.B.size hn1) (by have := blk_lt HK.out; omega))
                clear hHeld hb6 kb hR5 hB5 hK5 hKw kb5
                refine last_ (i := 21) (N := none) #[true, true, true, true, true, true, true, true, true, true, true, true, true, true, true, true, true, true, true, true, true, true, false, false, false] rfl rfl (by kernel_rfl) (by decide) (fun K hSh => ?_)
                refine skip_ (w1 := set4 w5 W1.heap.size (.slice (some ⟨g5, 0, none⟩) q2_.l.length c5) (.int .i64 q2_.c) (.int .i64 q2_.lv) (.int .i64 q2_.st)) (by rfl) rfl (by go_simp <;> rfl) ?_
                refine hSh.out _ _ ?_
                refine pure_ (i := 22) (N := some 21) (v := ?_) (a' := ?_) #[true, true, true, true, true, true, true, true, true, true, true, true, true, true, true, true, true, true, true, true, true, true, true, false, false] rfl rfl (by kernel_rfl) (fun _ _ _ h => h) (Or.inl ⟨by rfl, ?_⟩) ?_ ?_
                rotate_left
                · intro w'
                  go_simp
                  with_reducible rfl
                rotate_left
                · simp only [Act.put, List.setIfInBounds_toArray, List.set_cons_zero, List.set_cons_succ, i64_w, i32_w]
                  rfl
                refine pure_ (i := 23) (N := some 22) (v := ?_) (a' := ?_) #[true, true, true, true, true, true, true, true, true, true, true, true, true, true, true, true, true, true, true, true, true, true, true, true, false] rfl rfl (by kernel_rfl) (fun _ _ _ h => h) (Or.inl ⟨by rfl, ?_⟩) ?_ ?_
                rotate_left
                · intro w'
                  go_simp
                  with_reducible rfl
                rotate_left
                · simp only [Act.put, List.setIfInBounds_toArray, List.set_cons_zero, List.set_cons_succ, i64_w, i32_w]
                  rfl
                refine pure_ (i := 24) (N := some 23) (v := ?_) (a' := ?_) #[true, true, true, true, true, true, true, true, true, true, true, true, true, true, true, true, true, true, true, true, true, true, true, true, true] rfl rfl (by kernel_rfl) (fun _ _ _ h => h) (Or.inl ⟨by rfl, ?_⟩) ?_ ?_
                rotate_left
                · intro w'
                  go_simp
                  with_reducible rfl
                rotate_left
                · simp only [Act.put, List.setIfInBounds_toArray, List.set_cons_zero, List.set_cons_succ, i64_w, i32_w]
                  rfl
                refine done_ (by kernel_rfl) ?_
                go_wp2_with fail
                go_meet
                exact FIN.out
            case rest =>
              clear SOF KF HCALL HB2
              obtain ⟨b, g7, c7, rfl, rfl, rfl, rfl, kb, hbb, htu, hpb, hrw, hrn, hR7, hK7⟩ := hcut
              obtain ⟨q0, q1, q2, q3⟩ := box_cells kb
              obtain ⟨p0, p1, p2, p3⟩ := box_cells hK7
              have t0 := blk_frozen hK7 0
              have t1 := blk_frozen hK7 1
              have t2 := blk_frozen hK7 2
              have t3_ := blk_frozen hK7 3
              have ho := only4 wc wb (.slice (some ⟨g7, 0, none⟩) q2_.l.length c7) (.int .i64 q2_.c) (.int .i64 q2_.lv) (.int .i64 q2_.st)
              obtain ⟨wd, hwd⟩ : ∃ wd : World, wd = set4 wc wb (.slice (some ⟨g7, 0, none⟩) q2_.l.length c7) (.int .i64 q2_.c) (.int .i64 q2_.lv) (.int .i64 q2_.st) := ⟨_, rfl⟩
              have HTU8 := Lib.hid (hwd ▸ htu.only ho hK7 (by decide) HBW.out)
              have HPB8 := Lib.hid (hwd ▸ hpb.only ho hK7 (by decide))
              have HRW8 := Lib.hid (hwd ▸ hrw.only ho hK7 (by decide))
              have HRN8 := Lib.hid (hwd ▸ hrn.only ho hK7 (by decide))
              have HR8 := Lib.hid (hwd ▸ RV.only hR7 ho hK7 (by decide))
              have HK8 := Lib.hid (show wd.heap[wb]? = some (.cells #[.slice (some ⟨g7, 0, none⟩) q2_.l.length c7, .int .i64 q2_.c, .int .i64 q2_.lv, .int .i64 q2_.st] 52 (0, 0)) from hwd ▸ blk4 hK7 (.slice (some ⟨g7, 0, none⟩) q2_.l.length c7) (.int .i64 q2_.c) (.int .i64 q2_.lv) (.int .i64 q2_.st))
              have HWD := Lib.hid hwd
              clear kb hbb htu hpb hrw hrn hR7 hK7 ho hwd HTU HPB HRW HRN HRV HK
              go_upto_region 23 with fail
              unfold set4 at HWD
              rw [← HWD.out]
              clear HWD q0 q1 q2 q3 p0 p1 p2 p3 t0 t1 t2 t3_
              obtain ⟨R0, R1, R2, R3, R4⟩ := HRN8.out.cells hj3
              rw [HEJ.out.1] at R0 R1 R2 R3 R4
              have J0 := HRW8.out.cell hj3
              rw [HEJ.out.2.1, HEJ.out.2.2.1, HEJ.out.2.2.2.1] at J0
              obtain ⟨g1', g2', g3', g4'⟩ := next_facts lj rj (n2, e2_, u2) t3 hlt H40J.out
              obtain ⟨r2, hr2⟩ : ∃ y, nextF lj rj (n2, e2_, u2) = y := ⟨_, rfl⟩
              rw [hr2] at g1' g2' g3' g4'
              have hd1 : Below wd.heap.size wd (wd.drewN 1) := pw_below_drewN (Below.refl _ _) 1
              have HNEXT := Lib.hid (rundleref13_Next.calls rj.a rj.t rj.s rj.l rj.n (some ad) cj lj n2 e2_ u2 _ _ _ _ _ (wd.drewN 1) (Kd.C_below HRJ.out (below_then HTU8.out.B HTU8.out.B.size hd1)) HCJ.out g1')
              have HR2 := Lib.hid hr2
              have HG := Lib.hid (And.intro g2' (And.intro g3' g4'))
              have HD1 := Lib.hid hd1
              clear hr2 g1' g2' g3' g4' hd1
              refine start_ (n := 13) (S := fun w' => w'.cell? ⟨rbx, jj * 5, none⟩ = some (.int .i64 rj.a) ∧ w'.cell? ⟨rbx, jj * 5 + 1, none⟩ = some (.int .i64 rj.t) ∧ w'.cell? ⟨rbx, jj * 5 + 2, none⟩ = some (.int .i64 rj.s) ∧ w'.cell? ⟨rbx, jj * 5 + 3, none⟩ = some (.int .i64 rj.l) ∧ w'.cell? ⟨rbx, jj * 5 + 4, none⟩ = some (.int .i64 rj.n) ∧ w'.cell? ⟨jb, jj, none⟩ = some (.slice (some ad) lj.length cj)) (ds := [12]) #[false, false, false, false, false, false, false, false, false, false, false, false, false] rfl rfl rfl (⟨R0, R1, R2, R3, R4, J0⟩) ?_
              intro hHeld
              refine pure_ (i := 0) (N := some 121) (v := ?_) (a' := ?_) #[true, false, false, false, false, false, false, false, false, false, false, false, false] rfl rfl (by kernel_rfl) (fun _ _ _ h => h) (Or.inl ⟨by rfl, ?_⟩) ?_ ?_
              rotate_left
              · intro w'
                go_simp
                with_reducible rfl
              rotate_left
              · simp only [Act.put, List.setIfInBounds_toArray, List.set_cons_zero, List.set_cons_succ, i64_w, i32_w]
                rfl
              refine pure_ (i := 1) (N := some 122) (v := ?_) (a' := ?_) #[true, true, false, false, false, false, false, false, false, false, false, false, false] rfl rfl (by kernel_rfl) (fun _ _ _ h => h) (Or.inl ⟨by rfl, ?_⟩) ?_ ?_
              rotate_left
              · intro w'
                go_simp
                with_reducible rfl
              rotate_left
              · simp only [Act.put, List.setIfInBounds_toArray, List.set_cons_zero, List.set_cons_succ, i64_w, i32_w]
                rfl
              refine pure_ (i := 2) (N := some 123) (v := ?_) (a' := ?_) #[true, true, true, false, false, false, false, false, false, false, false, false, false] rfl rfl (by kernel_rfl) (fun _ _ _ h => h) (Or.inl ⟨by rfl, ?_⟩) ?_ ?_
              rotate_left
              · intro w'
                go_simp
                with_reducible rfl
              rotate_left
              · simp only [Act.put, List.setIfInBounds_toArray, List.set_cons_zero, List.set_cons_succ, i64_w, i32_w]
                rfl
              refine take_ (i := 3) (N := some 124) (v := ?_) (a' := ?_) #[true, true, true, true, false, false, false, false, false, false, false, false, false] rfl rfl (by kernel_rfl) (fun _ _ _ h => h) (Or.inl ⟨by rfl, ?_⟩) hHeld ?_ ?_
              rotate_left
              · rintro w' hHeld'
                have hHeld'' := hHeld'
                (try obtain ⟨r0_, r1_⟩ := hHeld')
                (try obtain ⟨r1_, r2_⟩ := r1_)
                (try obtain ⟨r2_, r3_⟩ := r2_)
                (try obtain ⟨r3_, r4_⟩ := r3_)
                (try obtain ⟨r4_, r5_⟩ := r4_)
                go_simp
                with_reducible rfl
              rotate_left
              · simp only [Act.put, List.setIfInBounds_toArray, List.set_cons_zero, List.set_cons_succ, i64_w, i32_w]
                rfl
              refine pure_ (i := 4) (N := some 125) (v := ?_) (a' := ?_) #[true, true, true, true, true, false, false, false, false, false, false, false, false] rfl rfl (by kernel_rfl) (fun _ _ _ h => h) (Or.inl ⟨by rfl, ?_⟩) ?_ ?_
              rotate_left
              · intro w'
                go_simp
                with_reducible rfl
              rotate_left
              · simp only [Act.put, List.setIfInBounds_toArray, List.set_cons_zero, List.set_cons_succ, i64_w, i32_w]
                rfl
              refine pure_ (i := 5) (N := some 126) (v := ?_) (a' := ?_) #[true, true, true, true, true, true, false, false, false, false, false, false, false] rfl rfl (by kernel_rfl) (fun _ _ _ h => h) (Or.inl ⟨by rfl, ?_⟩) ?_ ?_
              rotate_left
              · intro w'
                go_simp
                with_reducible rfl
              rotate_left
              · simp only [Act.put, List.setIfInBounds_toArray, List.set_cons_zero, List.set_cons_succ, i64_w, i32_w]
                rfl
              refine take_ (i := 6) (N := some 127) (v := ?_) (a' := ?_) #[true, true, true, true, true, true, true, false, false, false, false, false, false] rfl rfl (by kernel_rfl) (fun _ _ _ h => h) (Or.inl ⟨by rfl, ?_⟩) hHeld ?_ ?_
              rotate_left
              · rintro w' hHeld'
                have hHeld'' := hHeld'
                (try obtain ⟨r0_, r1_⟩ := hHeld')
                (try obtain ⟨r1_, r2_⟩ := r1_)
                (try obtain ⟨r2_, r3_⟩ := r2_)
                (try obtain ⟨r3_, r4_⟩ := r3_)
                (try obtain ⟨r4_, r5_⟩ := r4_)
                go_simp
                with_reducible rfl
              rotate_left
              · simp only [Act.put, List.setIfInBounds_toArray, List.set_cons_zero, List.set_cons_succ, i64_w, i32_w]
                rfl
              refine pure_ (i := 7) (N := some 128) (v := ?_) (a' := ?_) #[true, true, true, true, true, true, true, true, false, false, false, false, false] rfl rfl (by kernel_rfl) (fun _ _ _ h => h) (Or.inl ⟨by rfl, ?_⟩) ?_ ?_
              rotate_left
              · intro w'
                go_simp
                with_reducible rfl
              rotate_left
              · simp only [Act.put, List.setIfInBounds_toArray, List.set_cons_zero, List.set_cons_succ, i64_w, i32_w]
                rfl
              refine pure_ (i := 8) (N := some 129) (v := ?_) (a' := ?_) #[true, true, true, true, true, true, true, true, true, false, false, false, false] rfl rfl (by kernel_rfl) (fun _ _ _ h => h) (Or.inl ⟨by rfl, ?_⟩) ?_ ?_
              rotate_left
              · intro w'
                go_simp
                with_reducible rfl
              rotate_left
              · simp only [Act.put, List.setIfInBounds_toArray, List.set_cons_zero, List.set_cons_succ, i64_w, i32_w]
                rfl
              refine pure_ (i := 9) (N := some 130) (v := ?_) (a' := ?_) #[true, true, true, true, true, true, true, true, true, true, false, false, false] rfl rfl (by kernel_rfl) (fun _ _ _ h => h) (Or.inl ⟨by rfl, ?_⟩) ?_ ?_
              rotate_left
              · intro w'
                go_simp
                with_reducible rfl
              rotate_left
              · simp only [Act.put, List.setIfInBounds_toArray, List.set_cons_zero, List.set_cons_succ, i64_w, i32_w]
                rfl
              refine one_ (i := 10) (N := some 131) #[true, true, true, true, true, true, true, true, true, true, true, false, false] rfl rfl (by kernel_rfl) (by decide) (fun K hSh => ?_)
              refine goes_ Try.func21 (by kernel_rfl) rfl #[.agg (R5.v rj), .slice (some ad) lj.length cj, .int .i64 n2, .int .i64 e2_, .int .i64 u2] (by rfl) rfl rfl (by (try simp only [List.map_toArray, List.map_cons, List.map_nil]); rfl) ?_
              refine HNEXT.out.mono ?_
              rintro e W2 ⟨rfl, hb2⟩
              have hbd2 : Below wd.heap.size wd W2 := below_then HD1.out HD1.out.size hb2
              refine ⟨_, rfl, hSh.out _ _ ⟨cell_at0 hbd2 R0, cell_at0 hbd2 R1, cell_at0 hbd2 R2, cell_at0 hbd2 R3, cell_at0 hbd2 R4, cell_at0 hbd2 J0⟩ ?_⟩
              clear hHeld hSh
              intro hHeld
              refine norm_ (a' := ?_) ?_ ?_
              rotate_left
              · simp only [Act.put, List.setIfInBounds_toArray, List.set_cons_zero, List.set_cons_succ, i64_w, i32_w]
                rfl
              have hrn2 := HRN8.out.kq (Kq.of_below hbd2)
              obtain ⟨cs2, hcs2⟩ := hrn2.ty
              have htu2 := HTU8.out.below hbd2
              have hpb2 := HPB8.out.kq (Kq.of_below hbd2)
              have hrw2 := HRW8.out.kq (Kq.of_below hbd2)
              have hR2' := HR8.out.move hbd2
              have hK2' := blk_below HK8.out hbd2
              obtain ⟨W3, hW3⟩ : ∃ y : World, y = setR W2 rbx jj r2 := ⟨_, rfl⟩
              have hO3 : Only W2 W3 rbx := hW3 ▸ onlyR W2 rbx jj r2
              have hrn3 : RunBox W3 rbx (upd r jj r2) := hW3 ▸ hrn2.set hj3 r2
              have htu3 := htu2.only hO3 hcs2 (by decide) HBX.out.2.2
              have hpb3 := hpb2.only hO3 hcs2 (by decide)
              have hrw3 := hrw2.only hO3 hcs2 (by decide)
              have hR3' := RV.only hR2' hO3 hcs2 (by decide)
              have hK3' := (hO3.block wb (blk_ne hK2' hcs2 (by decide))).trans hK2'
              have z0 := hrn2.frozen (jj * 5)
              have z1 := hrn2.frozen (jj * 5 + 1)
              have z2 := hrn2.frozen (jj * 5 + 2)
              have z3 := hrn2.frozen (jj * 5 + 3)
              have z4 := hrn2.frozen (jj * 5 + 4)
              have c0' := cell_at0 hbd2 R0
              have c1' := cell_at0 hbd2 R1
              have c2' := cell_at0 hbd2 R2
              have c3' := cell_at0 hbd2 R3
              have c4' := cell_at0 hbd2 R4
              obtain ⟨bb, hbb⟩ : ∃ bb, decide ((lj.length : Int) ≤ r2.a) = bb := ⟨_, rfl⟩
              have hstep := htu3.step (i := jj) hj3 HS.out (by rw [HEJ.out.2.2.1, HEJ.out.2.1]; exact HRJ.out) (by rw [HEJ.out.2.1, HEJ.out.2.2.2.1]; exact HCJ.out) (by rw [HEJ.out.2.1]; exact H40J.out) (by rw [HEJ.out.2.1]; exact HF0J.out) (r2 := r2) (q2 := q2_) (bb := bb) (Or.inl (by rw [HEJ.out.1, HEJ.out.2.1, HX.out, HO.out]; exact ⟨hlt, HR2.out.symm, rfl⟩)) (by rw [HEJ.out.2.1]; exact hbb.symm)
              rw [HEJ.out.2.2.2.2] at hstep
              have HSTEP := Lib.hid hstep
              have HPB3 := Lib.hid hpb3
              have HRW3 := Lib.hid hrw3
              have HRN3 := Lib.hid hrn3
              have HR3 := Lib.hid hR3'
              have HK3 := Lib.hid hK3'
              have HW3 := Lib.hid hW3
              have X0 := hpb3.cell hj3
              rw [HEJ.out.2.2.2.2] at X0
              clear hrn2 hcs2 htu2 hpb2 hrw2 hR2' hK2' hW3 hO3 hrn3 htu3 hpb3 hrw3 hR3' hK3' hstep hb2 hbd2 HTU8 HPB8 HRW8 HRN8 HR8 HK8 HNEXT R0 R1 R2 R3 R4 J0 hHeld
              refine pure_ (i := 11) (N := some 132) (v := ?_) (a' := ?_) #[true, true, true, true, true, true, true, true, true, true, true, true, false] rfl rfl (by kernel_rfl) (fun _ _ _ h => h) (Or.inl ⟨by rfl, ?_⟩) ?_ ?_
              rotate_left
              · intro w'
                go_simp
                with_reducible rfl
              rotate_left
              · simp only [Act.put, List.setIfInBounds_toArray, List.set_cons_zero, List.set_cons_succ, i64_w, i32_w]
                rfl
              refine last_ (i := 12) (N := none) #[true, true, true, true, true, true, true, true, true, true, true, true, true] rfl rfl (by kernel_rfl) (by decide) (fun K hSh => ?_)
              refine skip_ (w1 := W3) (by rfl) rfl (by rw [HW3.out]; go_simp <;> rfl) ?_
              refine hSh.out _ _ ?_
              refine done_ (by kernel_rfl) ?_
              clear HW3 z0 z1 z2 z3 z4 c0' c1' c2' c3' c4'
              go_wp2_with fail
              refine HSTEP.out.mono ?_
              clear HSTEP
              rintro e W9 ⟨rfl, f', m', htu9, hS9, hE9, hx9, hO9⟩
              have hpb9 := (HPB3.out.oq hO9).same hx9
              have hrw9 := HRW3.out.oq hO9
              have hrn9 := HRN3.out.oq hO9
              have hRV9 := RV.oq HR3.out hO9
              have hK9 := hO9 _ _ _ HK3.out (by decide)
              obtain ⟨rF, hrFe⟩ : ∃ y, upd r jj r2 = y := ⟨_, rfl⟩
              have hrF : rF jj = r2 := by rw [← hrFe, upd_self]
              rw [hrFe] at htu9 hrn9
              clear hO9 hrFe HPB3 HRW3 HRN3 HR3 HK3 X0
              have htu9r := htu9.T jj hj3
              rw [hrF] at htu9r
              obtain ⟨t1, t2, t3', t4'⟩ := htu9r.facts
              have hxj9 : (f' jj).xb = xj := (hx9 jj).trans HEJ.out.2.2.2.2
              have hM9 := (htu9.D jj hj3).M
              rw [hxj9, t1, hE9] at hM9
              have HOUT := Lib.hid (show (bb = true → (f' jj).x.out = .iface 47 (.agg r2.v)) ∧ (bb = false → (f' jj).x.out = .nilIface) from by
                refine ⟨fun e => ?_, fun e => ?_⟩
                · rcases htu9r with h | h
                  · exact absurd (h.e.symm.trans (hE9.trans e)) (by decide)
                  · exact h.o
                · rcases htu9r with h | h
                  · exact h.o
                  · exact absurd (h.e.symm.trans (hE9.trans e)) (by decide))
              obtain ⟨R0, R1, R2, R3, R4⟩ := hrn9.cells hj3
              rw [hrF] at R0 R1 R2 R3 R4
              have J0 := hrw9.cell hj3
              rw [HEJ.out.2.1, HEJ.out.2.2.1, HEJ.out.2.2.2.1] at J0
              have X0 := hpb9.cell hj3
              rw [hxj9] at X0
              obtain ⟨q0, q1, q2, q3⟩ := box_cells hK9
              have E1 := Lib.hid hS9.c
              have E2 := Lib.hid hS9.lv
              have E3 := Lib.hid hS9.st
              have hAm := Lib.hid htu9.Am
              have HM9 := Lib.hid hM9
              have HTU9 := Lib.hid htu9
              have HPB9 := Lib.hid hpb9
              have HRW9 := Lib.hid hrw9
              have HRN9 := Lib.hid hrn9
              have HS9 := Lib.hid hS9
              have HRV9 := Lib.hid hRV9
              have HK9 := Lib.hid hK9
              have HRF := Lib.hid hrF
              have x1_ : (bb != bb) = false := by simp
              have x2_ : (r2.n != r2.n) = false := by simp
              have x3_ : (q2_.c != q2_.c) = false := by simp
              have x4_ : (q2_.lv != q2_.lv) = false := by simp
              have x5_ : (q2_.st != q2_.st) = false := by simp
              clear htu9 hpb9 hrw9 hrn9 hS9 hRV9 hK9 hrF hE9 hx9 htu9r t1 t2 t3' t4' hxj9 hM9
              go_upto_region 25 with fail
              go_quiet ((first | (go_at_call 22; exact count_quiet hAm.out E1.out _) | (go_at_call 23; exact live_quiet hAm.out E2.out _) | (go_at_call 24; exact stale_quiet hAm.out E3.out _) | (go_at_call 25; exact msteps_quiet HM9.out _)))
              obtain ⟨W10, hW10⟩ : ∃ y, W9.drewN nq = y := ⟨_, rfl⟩
              rw [hW10]
              have hb10 : Below W9.heap.size W9 W10 := hW10 ▸ pw_below_drewN (Below.refl _ _) nq
              have HB10 := Lib.hid hb10
              have X1 := cell_at0 hb10 X0
              clear hb10 hW10 X0 x1_ x2_ x3_ x4_ x5_
              cases bb with
              | true =>
                have HM10 := Lib.hid (show MG W10 xj (f' jj).pb (fvD (s.lb jj)) (.iface 47 (.agg r2.v)) r2.n true from (HOUT.out.1 (by simp)) ▸ HM9.out.below HB10.out)
                clear HM9 HOUT
                go_upto_region 27 with fail
                go_wp2_with fail
                refine (told_calls HM10.out).mono ?_
                rintro e W11 ⟨rfl, hb11⟩
                obtain ⟨W12, hW12⟩ : ∃ y : World, y = W11.alloc (.cells (R5.v r2) 47) := ⟨_, rfl⟩
                have hb12 : Below W11.heap.size W11 W12 := hW12 ▸ below_alloc (Below.refl _ _) _
                have hk12 : W12.heap[W11.heap.size]? = some (.cells (R5.v r2) 47 (0, 0)) := hW12 ▸ blk_new _ _
                obtain ⟨qb, hqb⟩ : ∃ y, W11.heap.size = y := ⟨_, rfl⟩
                rw [hqb] at hk12
                have hbb12 : Below W9.heap.size W9 W12 := below_then (below_then HB10.out HB10.out.size hb11) (Nat.le_trans HB10.out.size hb11.size) hb12
                obtain ⟨b0, b1, b2, b3, b4⟩ := box5 hk12
                have R0' := cell_at0 hbb12 R0
                have R1' := cell_at0 hbb12 R1
                have R2' := cell_at0 hbb12 R2
                have R3' := cell_at0 hbb12 R3
                have R4' := cell_at0 hbb12 R4
                have NEXT := Lib.hid (show ∀ n, LoopU w mb cb jb xbx rbx wb lt.length s (.int .i64 ((k + 1 : Nat) : Int)) (W12.drewN n) from fun n => ⟨k + 1, f', rF, m', q2_, _, by omega, rfl, HTU9.out.below (pw_below_drewN hbb12 n), HPB9.out.kq (Kq.of_below (pw_below_drewN hbb12 n)), HRW9.out.kq (Kq.of_below (pw_below_drewN hbb12 n)), HRN9.out.kq (Kq.of_below (pw_below_drewN hbb12 n)), HS9.out, HRV9.out.move (pw_below_drewN hbb12 n), blk_below HK9.out (pw_below_drewN hbb12 n)⟩)
                have HW12 := Lib.hid hW12
                have HQB := Lib.hid hqb
                clear hb11 hW12 hb12 hk12 hqb hbb12 HM10 HB10 HTU9 HPB9 HRW9 HRN9 HS9 HRV9 HK9 R0 R1 R2 R3 R4 hAm E1 E2 E3 q0 q1 q2 q3 J0 X1
                simp only [R5.v, r0] at HW12
                simp only [R5.v, r0]
                go_upto_region 28 with fail
                rw [← HW12.out, HQB.out]
                clear HW12 HQB
                go_quiet (fail)
                have NX := Lib.hid (NEXT.out nq)
                clear NEXT b0 b1 b2 b3 b4 R0' R1' R2' R3' R4'
                go_wp2_with fail
                go_roundw
                case rel => first | exact NX.out | (have hN := NX.out; go_num)
                case measure => simp [intOf]; omega
              | false =>
                have HM10 := Lib.hid (show MG W10 xj (f' jj).pb (fvD (s.lb jj)) .nilIface r2.n false from (HOUT.out.2 (by simp)) ▸ HM9.out.below HB10.out)
                clear HM9 HOUT
                go_upto_region 27 with fail
                go_wp2_with fail
                refine (told_not HM10.out).mono ?_
                rintro e W11 ⟨rfl, hb11⟩
                obtain ⟨W12, hW12⟩ : ∃ y : World, y = W11.alloc (.cells (R5.v r0) 47) := ⟨_, rfl⟩
                have hb12 : Below W11.heap.size W11 W12 := hW12 ▸ below_alloc (Below.refl _ _) _
                have hk12 : W12.heap[W11.heap.size]? = some (.cells (R5.v r0) 47 (0, 0)) := hW12 ▸ blk_new _ _
                obtain ⟨qb, hqb⟩ : ∃ y, W11.heap.size = y := ⟨_, rfl⟩
                rw [hqb] at hk12
                have hbb12 : Below W9.heap.size W9 W12 := below_then (below_then HB10.out HB10.out.size hb11) (Nat.le_trans HB10.out.size hb11.size) hb12
                obtain ⟨b0, b1, b2, b3, b4⟩ := box5 hk12
                have R0' := cell_at0 hbb12 R0
                have R1' := cell_at0 hbb12 R1
                have R2' := cell_at0 hbb12 R2
                have R3' := cell_at0 hbb12 R3
                have R4' := cell_at0 hbb12 R4
                have NEXT := Lib.hid (show ∀ n, LoopU w mb cb jb xbx rbx wb lt.length s (.int .i64 ((k + 1 : Nat) : Int)) (W12.drewN n) from fun n => ⟨k + 1, f', rF, m', q2_, _, by omega, rfl, HTU9.out.below (pw_below_drewN hbb12 n), HPB9.out.kq (Kq.of_below (pw_below_drewN hbb12 n)), HRW9.out.kq (Kq.of_below (pw_below_drewN hbb12 n)), HRN9.out.kq (Kq.of_below (pw_below_drewN hbb12 n)), HS9.out, HRV9.out.move (pw_below_drewN hbb12 n), blk_below HK9.out (pw_below_drewN hbb12 n)⟩)
                have HW12 := Lib.hid hW12
                have HQB := Lib.hid hqb
                clear hb11 hW12 hb12 hk12 hqb hbb12 HM10 HB10 HTU9 HPB9 HRW9 HRN9 HS9 HRV9 HK9 R0 R1 R2 R3 R4 hAm E1 E2 E3 q0 q1 q2 q3 J0 X1
                simp only [R5.v, r0] at HW12
                simp only [R5.v, r0]
                go_upto_region 28 with fail
                rw [← HW12.out, HQB.out]
                clear HW12 HQB
                go_quiet (fail)
                have NX := Lib.hid (NEXT.out nq)
                clear NEXT b0 b1 b2 b3 b4 R0' R1' R2' R3' R4'
                go_wp2_with fail
                go_roundw
                case rel => first | exact NX.out | (have hN := NX.out; go_num)
                case measure => simp [intOf]; omega
          · have gr : decide (rj.a < (lj.length : Int)) = false := decide_eq_false hlt
            have hstep := fun W (hb : Below wr.heap.size wr W) => (HTU.out.below hb).step (i := jj) hj3 HS.out (by rw [HEJ.out.2.2.1, HEJ.out.2.1]; exact HRJ.out) (by rw [HEJ.out.2.1, HEJ.out.2.2.2.1]; exact HCJ.out) (by rw [HEJ.out.2.1]; exact H40J.out) (by rw [HEJ.out.2.1]; exact HF0J.out) (r2 := rj) (q2 := q) (bb := true) (Or.inr (by rw [HEJ.out.1, HEJ.out.2.1]; exact ⟨hlt, rfl, rfl⟩)) (by rw [HEJ.out.2.1]; exact (decide_eq_true (by omega)).symm)
            rw [HEJ.out.2.2.2.2] at hstep
            have HSTEP := Lib.hid hstep
            clear hstep
            go_upto_region 20 with fail
            go_quiet (fail)
            obtain ⟨W1, hW1⟩ : ∃ y, wr.drewN nq = y := ⟨_, rfl⟩
            rw [hW1]
            have hb1 : Below wr.heap.size wr W1 := hW1 ▸ pw_below_drewN (Below.refl _ _) nq
            have X1 := cell_at0 hb1 X0
            have HB1' := Lib.hid hb1
            have HGE := Lib.hid (show decide ((lj.length : Int) ≤ rj.a) = true from decide_eq_true (by omega))
            clear hb1 hW1 X0 q0 q1 q2 q3 R0 R1 R2 R3 R4 J0 hc2 hlt gr
            go_wp2_with fail
            refine (HSTEP.out _ HB1'.out).mono ?_
            clear HSTEP
            rintro e W9 ⟨rfl, f', m', htu9, hS9, hE9, hx9, hO9⟩
            have hpb9 := ((HPB.out.kq (Kq.of_below HB1'.out)).oq hO9).same hx9
            have hrw9 := (HRW.out.kq (Kq.of_below HB1'.out)).oq hO9
            have hrn9 := (HRN.out.kq (Kq.of_below HB1'.out)).oq hO9
            have hRV9 := RV.oq (HRV.out.move HB1'.out) hO9
            have hK9 := hO9 _ _ _ (blk_below HK.out HB1'.out) (by decide)
            have hrF : r jj = rj := HEJ.out.1
            rw [upd_same r jj hrF] at htu9
            have hge : decide ((lj.length : Int) ≤ rj.a) = true := HGE.out
            clear hO9 HPB HRW HRN HRV HK HTU HS X1
            have htu9r := htu9.T jj hj3
            rw [hrF] at htu9r
            obtain ⟨t1, t2, t3', t4'⟩ := htu9r.facts
            have hxj9 : (f' jj).xb = xj := (hx9 jj).trans HEJ.out.2.2.2.2
            have hM9 := (htu9.D jj hj3).M
            rw [hxj9, t1, hE9] at hM9
            have HOUT := Lib.hid (show (true = true → (f' jj).x.out = .iface 47 (.agg rj.v)) ∧ (true = false → (f' jj).x.out = .nilIface) from by
              refine ⟨fun e => ?_, fun e => ?_⟩
              · rcases htu9r with h | h
                · exact absurd (h.e.symm.trans (hE9.trans e)) (by decide)
                · exact h.o
              · rcases htu9r with h | h
                · exact h.o
                · exact absurd (h.e.symm.trans (hE9.trans e)) (by decide))
            obtain ⟨R0, R1, R2, R3, R4⟩ := hrn9.cells hj3
            rw [hrF] at R0 R1 R2 R3 R4
            have J0 := hrw9.cell hj3
            rw [HEJ.out.2.1, HEJ.out.2.2.1, HEJ.out.2.2.2.1] at J0
            have X0 := hpb9.cell hj3
            rw [hxj9] at X0
            obtain ⟨q0, q1, q2, q3⟩ := box_cells hK9
            have E1 := Lib.hid hS9.c
            have E2 := Lib.hid hS9.lv
            have E3 := Lib.hid hS9.st
            have hAm := Lib.hid htu9.Am
            have HM9 := Lib.hid hM9
            have HTU9 := Lib.hid htu9
            have HPB9 := Lib.hid hpb9
            have HRW9 := Lib.hid hrw9
            have HRN9 := Lib.hid hrn9
            have HS9 := Lib.hid hS9
            have HRV9 := Lib.hid hRV9
            have HK9 := Lib.hid hK9
            have HRF := Lib.hid hrF
            have x1_ : (true != true) = false := by simp
            have x2_ : (rj.n != rj.n) = false := by simp
            have x3_ : (q.c != q.c) = false := by simp
            have x4_ : (q.lv != q.lv) = false := by simp
            have x5_ : (q.st != q.st) = false := by simp
            clear htu9 hpb9 hrw9 hrn9 hS9 hRV9 hK9 hrF hE9 hx9 htu9r t1 t2 t3' t4' hxj9 hM9
            go_upto_region 25 with fail
            go_quiet ((first | (go_at_call 22; exact count_quiet hAm.out E1.out _) | (go_at_call 23; exact live_quiet hAm.out E2.out _) | (go_at_call 24; exact stale_quiet hAm.out E3.out _) | (go_at_call 25; exact msteps_quiet HM9.out _)))
            obtain ⟨W10, hW10⟩ : ∃ y, W9.drewN nq = y := ⟨_, rfl⟩
            rw [hW10]
            have hb10 : Below W9.heap.size W9 W10 := hW10 ▸ pw_below_drewN (Below.refl _ _) nq
            have HB10 := Lib.hid hb10
            have X1 := cell_at0 hb10 X0
            clear hb10 hW10 X0 x1_ x2_ x3_ x4_ x5_
            have HM10 := Lib.hid (show MG W10 xj (f' jj).pb (fvD (s.lb jj)) (.iface 47 (.agg rj.v)) rj.n true from (HOUT.out.1 (by simp)) ▸ HM9.out.below HB10.out)
            clear HM9 HOUT
            go_upto_region 27 with fail
            go_wp2_with fail
            refine (told_calls HM10.out).mono ?_
            rintro e W11 ⟨rfl, hb11⟩
            obtain ⟨W12, hW12⟩ : ∃ y : World, y = W11.alloc (.cells (R5.v rj) 47) := ⟨_, rfl⟩
            have hb12 : Below W11.heap.size W11 W12 := hW12 ▸ below_alloc (Below.refl _ _) _
            have hk12 : W12.heap[W11.heap.size]? = some (.cells (R5.v rj) 47 (0, 0)) := hW12 ▸ blk_new _ _
            obtain ⟨qb, hqb⟩ : ∃ y, W11.heap.size = y := ⟨_, rfl⟩
            rw [hqb] at hk12
            have hbb12 : Below W9.heap.size W9 W12 := below_then (below_then HB10.out HB10.out.size hb11) (Nat.le_trans HB10.out.size hb11.size) hb12
            obtain ⟨b0, b1, b2, b3, b4⟩ := box5 hk12
            have R0' := cell_at0 hbb12 R0
            have R1' := cell_at0 hbb12 R1
            have R2' := cell_at0 hbb12 R2
            have R3' := cell_at0 hbb12 R3
            have R4' := cell_at0 hbb12 R4
            have NEXT := Lib.hid (show ∀ n, LoopU w mb cb jb xbx rbx wb lt.length s (.int .i64 ((k + 1 : Nat) : Int)) (W12.drewN n) from fun n => ⟨k + 1, f', r, m', q, _, by omega, rfl, HTU9.out.below (pw_below_drewN hbb12 n), HPB9.out.kq (Kq.of_below (pw_below_drewN hbb12 n)), HRW9.out.kq (Kq.of_below (pw_below_drewN hbb12 n)), HRN9.out.kq (Kq.of_below (pw_below_drewN hbb12 n)), HS9.out, HRV9.out.move (pw_below_drewN hbb12 n), blk_below HK9.out (pw_below_drewN hbb12 n)⟩)
            have HW12 := Lib.hid hW12
            have HQB := Lib.hid hqb
            clear hb11 hW12 hb12 hk12 hqb hbb12 HM10 HB10 HTU9 HPB9 HRW9 HRN9 HS9 HRV9 HK9 R0 R1 R2 R3 R4 hAm E1 E2 E3 q0 q1 q2 q3 J0 X1
            simp only [R5.v, r0] at HW12
            simp only [R5.v, r0]
            go_upto_region 28 with fail
            rw [← HW12.out, HQB.out]
            clear HW12 HQB
            go_quiet (fail)
            have NX := Lib.hid (NEXT.out nq)
            clear NEXT b0 b1 b2 b3 b4 R0' R1' R2' R3' R4'
            go_wp2_with fail
            go_roundw
            case rel => first | exact NX.out | (have hN := NX.out; go_num)
            case measure => simp [intOf]; omega
        · have gt : decide ((k : Int) < (lt.length : Int)) = false := decide_eq_false (by omega)
          have HB := Lib.hid htu.B
          clear htu hpb hrw hrn hS hRV hK
          go_wp2_with fail
          go_ret
          exact ⟨rfl, HB.out⟩
theorem three_all {P : Nat → Prop} (h0 : P 0) (h1 : P 1) (h2 : P 2) : ∀ j, j < 3 → P j := fun j hj => by
  match j, hj with
  | 0, _ => exact h0
  | 1, _ => exact h1
  | 2, _ => exact h2
theorem StepTurns_walk (a : Int) (A0 A1 A2 At : Option Addr) (c0 c1 c2 ct : Nat) (l0 l1 l2 : List S57) (lt : List Int) (ha : 0 ≤ a ∧ a ≤ 255) (w : World) (hc0 : l0.length ≤ c0) (hc1 : l1.length ≤ c1) (hc2 : l2.length ≤ c2)
    (hR0 : Kd.C k57 w A0 l0.length l0) (hR1 : Kd.C k57 w A1 l1.length l1) (hR2 : Kd.C k57 w A2 l2.length l2)
    (f0 : ∀ i, 0 ≤ i → i < (l0.length : Int) → 0 ≤ (rd_T57 l0 i).f0 ∧ (rd_T57 l0 i).f0 ≤ 255) (f1 : ∀ i, 0 ≤ i → i < (l1.length : Int) → 0 ≤ (rd_T57 l1 i).f0 ∧ (rd_T57 l1 i).f0 ≤ 255) (f2 : ∀ i, 0 ≤ i → i < (l2.length : Int) → 0 ≤ (rd_T57 l2 i).f0 ∧ (rd_T57 l2 i).f0 ≤ 255)
    (hT : RdB w At lt) (hT8 : ∀ r ∈ lt, 0 ≤ r ∧ r ≤ 255) :
    Calls Try.prog 4 #[.int .u8 a, .slice A0 l0.length c0, .slice A1 l1.length c1, .slice A2 l2.length c2, .slice At lt.length ct] w fun e w' => e = .returned (.bool true) ∧ Below w.heap.size w w' := by
  by_cases h0 : 40 < l0.length
  · exact StepTurns_long0 a A0 A1 A2 At c0 c1 c2 ct l0 l1 l2 lt h0 w
  · by_cases h1 : 40 < l1.length
    · exact StepTurns_long1 a A0 A1 A2 At c0 c1 c2 ct l0 l1 l2 lt (by omega) h1 w
    · by_cases h2 : 40 < l2.length
      · exact StepTurns_long2 a A0 A1 A2 At c0 c1 c2 ct l0 l1 l2 lt (by omega) (by omega) h2 w
      · by_cases h3 : 200 < lt.length
        · exact StepTurns_long3 a A0 A1 A2 At c0 c1 c2 ct l0 l1 l2 lt (by omega) (by omega) (by omega) h3 w
        · exact StepTurns_main a A0 A1 A2 At c0 c1 c2 ct l0 l1 l2 lt (by omega) (by omega) (by omega) (by omega) ha w _ _ _ rfl rfl rfl (three_all hR0 hR1 hR2) (three_all hc0 hc1 hc2) (three_all (by show l0.length ≤ 40; omega) (by show l1.length ≤ 40; omega) (by show l2.length ≤ 40; omega)) (three_all f0 f1 f2) hT hT8
end
end Go.Proofs.Ythgbgflpjggpmaa.Mem
