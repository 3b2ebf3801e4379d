/- MemPlays, by hand: whatever is asked of memory, each answer, and all counts, are the document's. -/
import Derived.Test.YthghhkdichbijaaDoblock
import Derived.Test.YthghhkdichbijaaDoword
import Derived.Test.YthghhkdichbijaaDoload
import Derived.Test.YthghhkdichbijaaDolook
import Derived.Test.YthghhkdichbijaaDostore
import Derived.Test.YthghhkdichbijaaDoswap
import Derived.Test.YthghhkdichbijaaDofree
import Derived.Test.YthghhkdichbijaaDoretire
import Derived.Test.YthghhkdichbijaaDoreap
import Derived.Deep.DeepCutAuto
import Derived.Deep.RegionWith
import Derived.WalkSpells
import Derived.BigRegion
import Derived.Deep.QuietTactic
import Derived.BigQuiet
namespace Go.Proofs.Ythghhkdichbijaa.Mem
open Go.RowKit Go.Proofs.YthghhkdichbijaaW.PrintWords Go.Proofs.Ythghhkdichbijaa.Tags Go.Proofs.Ythghhkdichbijaa.PMemPlays
open Go.Proofs.Ythghhkdichbijaa.RefAlloc
set_option linter.unusedVariables false
set_option linter.unusedSimpArgs false
section
theorem Does_any {w w0 : World} {mb cb : Nat} {m : M} {x : Value} {r : R} {ts : List Int} {A : Option Addr} {c : Nat} (hB : Below w0.heap.size w0 w) (hA : At w mb cb m) (hmb : w0.heap.size ≤ mb) (hcb : w0.heap.size ≤ cb) (hR : RV w w0.heap.size x r) (hT : OwnI w w0.heap.size (.slice A ts.length c) ts) (hS : Sim m r) (d p n u : Int) (raw : Bool) (h0 : 0 ≤ d) :
    Calls Try.prog 23 #[ptr mb, x, .agg #[.int .u8 d, .int .i64 p, .int .i64 n, .int .i64 u, .bool raw], .slice A ts.length c] w (Did w0 w mb cb (.slice A ts.length c) ts) := by
  have e : d.tmod 9 = d % 9 := Int.tmod_eq_emod_of_nonneg h0
  have h : d % 9 = 0 ∨ d % 9 = 1 ∨ d % 9 = 2 ∨ d % 9 = 3 ∨ d % 9 = 4 ∨ d % 9 = 5 ∨ d % 9 = 6 ∨ d % 9 = 7 ∨ d % 9 = 8 := by omega
  rcases h with h | h | h | h | h | h | h | h | h
  · exact Does_block hB hA hmb hcb hR hT hS d p n u raw (e.trans h)
  · exact Does_word hB hA hmb hcb hR hT hS d p n u raw (e.trans h)
  · exact Does_load hB hA hmb hcb hR hT hS d p n u raw (e.trans h)
  · exact Does_look hB hA hmb hcb hR hT hS d p n u raw (e.trans h)
  · exact Does_store hB hA hmb hcb hR hT hS d p n u raw (e.trans h)
  · exact Does_swap hB hA hmb hcb hR hT hS d p n u raw (e.trans h)
  · exact Does_free hB hA hmb hcb hR hT hS d p n u raw (e.trans h)
  · exact Does_retire hB hA hmb hcb hR hT hS d p n u raw (e.trans h)
  · exact Does_reap hB hA hmb hcb hR hT hS d p n u raw (e.trans h)
/-- The same, in a world that has grown. -/
theorem Does_at {w W w0 : World} {mb cb : Nat} {m : M} {x : Value} {r : R} {ts : List Int} {A : Option Addr} {c : Nat} (hW : Below w.heap.size w W) (hB : Below w0.heap.size w0 w) (hA : At w mb cb m) (hmb : w0.heap.size ≤ mb) (hcb : w0.heap.size ≤ cb) (hR : RV w w0.heap.size x r) (hT : OwnI w w0.heap.size (.slice A ts.length c) ts) (hS : Sim m r) (d p n u : Int) (raw : Bool) (h0 : 0 ≤ d) :
    Calls Try.prog 23 #[ptr mb, x, .agg #[.int .u8 d, .int .i64 p, .int .i64 n, .int .i64 u, .bool raw], .slice A ts.length c] W (Did w0 W mb cb (.slice A ts.length c) ts) :=
  Does_any (below_then hB hB.size hW) (hA.below hW) hmb hcb (hR.move hW) (hT.below hW) hS d p n u raw h0
/-- What an act leaves, where the law goes on. -/
def Goes (W0 : World) (mb cb bw : Nat) (cs : Array Value) (t : Value) (ts : List Int) (s12 s13 s14 : Value) (w : World) : Prop := ∃ (b : Nat) (m : M) (r : R) (v : Value) (h : Int), s12 = .pointer (some ⟨b, 0, none⟩) ∧ s13 = .bool true ∧ s14 = .int .i64 h ∧ w.heap[b]? = some (.cells #[v, .int .i64 r.c, .int .i64 r.lv, .int .i64 r.st] 45 (0, 0)) ∧ b ≠ bw ∧
  Sim m r ∧ OwnI w W0.heap.size t ts ∧ RV w W0.heap.size (agg4 v r.c r.lv r.st) r ∧ At w mb cb m ∧ Below W0.heap.size W0 w ∧ w.heap[bw]? = some (.cells cs 45 (0, 0))
theorem goesA {W0 w5 : World} {mb cb bw : Nat} {cs : Array Value} {t : Value} {ts : List Int} {m : M} {l5 : List S123} {cc5 v5 s5 q : Int} {u : Value} (hS : Sim m ⟨l5, cc5, v5, s5⟩) (hA : At w5 mb cb m) (hR : RV w5 W0.heap.size (agg4 u cc5 v5 s5) ⟨l5, cc5, v5, s5⟩) (hT : OwnI w5 W0.heap.size t ts) (hB : Below W0.heap.size W0 w5)
    (hbw : w5.heap[bw]? = some (.cells cs 45 (0, 0))) : Goes W0 mb cb bw cs t ts (.pointer (some ⟨w5.heap.size, 0, none⟩)) (.bool true) (.int .i64 q) (w5.alloc (.cells #[u, .int .i64 cc5, .int .i64 v5, .int .i64 s5] 45)) :=
  ⟨_, m, ⟨l5, cc5, v5, s5⟩, u, q, rfl, rfl, rfl, blk_new _ _, by have := blk_lt hbw; omega, hS, hT.alloc _, RV.move hR (below_alloc (Below.refl _ _) _), hA.alloc _, hB.alloc hB.size _, blk_alloc hbw _⟩
theorem goesB {W0 w5 : World} {mb cb bw b : Nat} {cs : Array Value} {t : Value} {ts : List Int} {m : M} {l5 : List S123} {cc5 v5 s5 q : Int} {u a0 a1 a2 a3 : Value} (hS : Sim m ⟨l5, cc5, v5, s5⟩) (hA : At w5 mb cb m) (hR : RV w5 W0.heap.size (agg4 u cc5 v5 s5) ⟨l5, cc5, v5, s5⟩) (hT : OwnI w5 W0.heap.size t ts) (hB : Below W0.heap.size W0 w5)
    (hbw : w5.heap[bw]? = some (.cells cs 45 (0, 0))) (kb : w5.heap[b]? = some (.cells #[a0, a1, a2, a3] 45 (0, 0))) (h1 : b ≠ mb) (h2 : b ≠ cb) (h3 : b ≠ bw) (h4 : W0.heap.size ≤ b) :
    Goes W0 mb cb bw cs t ts (.pointer (some ⟨b, 0, none⟩)) (.bool true) (.int .i64 q) (set4 w5 b u (.int .i64 cc5) (.int .i64 v5) (.int .i64 s5)) :=
  have ho := only4 w5 b u (.int .i64 cc5) (.int .i64 v5) (.int .i64 s5)
  ⟨_, m, ⟨l5, cc5, v5, s5⟩, u, q, rfl, rfl, rfl, blk4 kb _ _ _ _, h3, hS, hT.only ho kb (by decide), RV.only hR ho kb (by decide), hA.only ho (Ne.symm h1) (Ne.symm h2), Below.only hB ho h4, (ho.block bw (Ne.symm h3)).trans hbw⟩
theorem count_quiet {w : World} {mb cb : Nat} {m : M} (h : At w mb cb m) {c : Int} (e : m.count = c) (n : Nat) : Calls Try.prog 24 #[ptr mb] (w.drewN n) fun e w'' => e = .returned (.int .i64 c) ∧ ∃ k, w'' = w.drewN k := by
  subst e
  exact (count_calls (h.drewN n)).mono fun _ _ ⟨h1, h2⟩ => ⟨h1, n, h2.symm⟩
theorem live_quiet {w : World} {mb cb : Nat} {m : M} (h : At w mb cb m) {c : Int} (e : m.live = c) (n : Nat) : Calls Try.prog 15 #[ptr mb] (w.drewN n) fun e w'' => e = .returned (.int .i64 c) ∧ ∃ k, w'' = w.drewN k := by
  subst e
  exact (live_calls (h.drewN n)).mono fun _ _ ⟨h1, h2⟩ => ⟨h1, n, h2.symm⟩
theorem stale_quiet {w : World} {mb cb : Nat} {m : M} (h : At w mb cb m) {c : Int} (e : m.stale = c) (n : Nat) : Calls Try.prog 25 #[ptr mb] (w.drewN n) fun e w'' => e = .returned (.int .i64 c) ∧ ∃ k, w'' = w.drewN k := by
  subst e
  exact (stale_calls (h.drewN n)).mono fun _ _ ⟨h1, h2⟩ => ⟨h1, n, h2.symm⟩
theorem RV.grown {w w1 : World} {B : Nat} {x v : Value} {r : R} {base : Nat} {xs : List Int} (h : RV w B x r) (hT : OwnI w base v xs) (hg : w.grownBy w1 v.ownBlock) : RV w1 B x r := h.keep fun k hk => by
  obtain ⟨cells, hc⟩ := h.typed hk
  exact hg.block k (blk_lt hc) (hT.ne hc (by decide))
theorem rnew_calls (n : Nat) (w : World) (h1 : 1 ≤ n) (h2 : n ≤ 65535) : Calls Try.prog 22 #[.int .i64 n] w fun e w' => ∃ g c, e = .returned (agg4 (.slice (some ⟨g, 0, none⟩) n c) 0 0 0) ∧ RV w' w.heap.size (agg4 (.slice (some ⟨g, 0, none⟩) n c) 0 0 0) ⟨List.replicate n z123, 0, 0, 0⟩ ∧ Below w.heap.size w w' := by
  have hf : rundleref12_New.f (n : Int) = some (List.replicate n z123, 0, 0, 0) := by
    unfold rundleref12_New.f
    rw [if_pos (by omega), if_pos (by rw [Int.toNat_natCast]; omega), Int.toNat_natCast]
  refine (rundleref12_New.calls n _ _ _ _ w hf).mono ?_
  rintro e w' ⟨v, rfl, h3, h4⟩
  have hR := RV.ofR (c := 0) (lv := 0) (st := 0) (by simpa using h2) (by simp; omega) h3
  obtain ⟨g, cap, tl, e, _⟩ := hR.open
  injection e with e
  have e' : v = .slice (some ⟨g, 0, none⟩) n cap := by simpa using e
  subst e'
  exact ⟨g, cap, rfl, hR, h4⟩
set_option maxHeartbeats 1600000 in
set_option maxRecDepth 100000 in
theorem MemPlays_long (a : Int) (A : Option Addr) (cap : Nat) (l : List Act) (hl : 200 < l.length) (w : World) :
    Calls Try.prog 7 #[.int .i64 a, .slice A l.length cap] w fun e w' => e = .returned (.bool true) ∧ Below w.heap.size w w' := by
  have g1 : decide (200 < l.length) = true := decide_eq_true hl
  go_enter Try.func7, Try.ntmps7
  go_wp2_with fail
  refine (awake_calls w).mono ?_
  rintro e w1 ⟨rfl, hB1⟩
  go_wp2_with fail
  refine (awake_calls w1).mono ?_
  rintro e w2 ⟨rfl, hB2⟩
  go_wp2
  go_ret
  exact ⟨rfl, below_then hB1 hB1.size hB2⟩
set_option maxHeartbeats 1600000 in
set_option maxRecDepth 100000 in
theorem MemPlays_bad (a : Int) (A : Option Addr) (cap : Nat) (l : List Act) (hl : l.length ≤ 200) (w : World) (ha : a < 1 ∨ 65535 < a) :
    Calls Try.prog 7 #[.int .i64 a, .slice A l.length cap] w fun e w' => e = .returned (.bool true) ∧ Below w.heap.size w w' := by
  have g1 : decide (200 < l.length) = false := decide_eq_false (by omega)
  by_cases h1 : a < 1
  · have g2 : decide (a < 1) = true := decide_eq_true h1
    go_enter Try.func7, Try.ntmps7
    go_wp2_with fail
    refine (awake_calls w).mono ?_
    rintro e w1 ⟨rfl, hB1⟩
    go_wp2_with fail
    refine (New_bad a w1 ha).mono ?_
    rintro e w2 ⟨rfl, rfl⟩
    go_wp2
    go_ret
    exact ⟨rfl, hB1⟩
  · have g2 : decide (a < 1) = false := decide_eq_false h1
    have g3 : decide (65535 < a) = true := decide_eq_true (by omega)
    go_enter Try.func7, Try.ntmps7
    go_wp2_with fail
    refine (awake_calls w).mono ?_
    rintro e w1 ⟨rfl, hB1⟩
    go_wp2_with fail
    refine (New_bad a w1 ha).mono ?_
    rintro e w2 ⟨rfl, rfl⟩
    go_wp2
    go_ret
    exact ⟨rfl, hB1⟩
set_option maxHeartbeats 1600000 in
set_option maxRecDepth 100000 in
theorem MemPlays_big (a : Int) (A : Option Addr) (cap : Nat) (l : List Act) (hl : l.length ≤ 200) (w : World) (h1 : 300 < a) (h2 : a ≤ 65535) :
    Calls Try.prog 7 #[.int .i64 a, .slice A l.length cap] w fun e w' => e = .returned (.bool true) ∧ Below w.heap.size w w' := by
  have g1 : decide (200 < l.length) = false := decide_eq_false (by omega)
  have g2 : decide (a < 1) = false := decide_eq_false (by omega)
  have g3 : decide (65535 < a) = false := decide_eq_false (by omega)
  have g4 : decide (300 < a) = true := decide_eq_true h1
  go_enter Try.func7, Try.ntmps7
  go_wp2_with fail
  refine (awake_calls w).mono ?_
  rintro e w1 ⟨rfl, hB1⟩
  go_wp2
  go_ret
  exact ⟨rfl, hB1⟩
set_option maxHeartbeats 6400000 in
set_option maxRecDepth 100000 in
theorem MemPlays_main (a : Nat) (h1 : 1 ≤ a) (h2 : a ≤ 300) (A : Option Addr) (cap : Nat) (l : List Act) (hl : l.length ≤ 200) (w : World) (hr0 : actKd.C w A l.length l) (hok : ∀ x ∈ l, x.ok) :
    Calls Try.prog 7 #[.int .i64 a, .slice A l.length cap] w fun e w' => e = .returned (.bool true) ∧ Below w.heap.size w w' := by
  have g1 : decide (200 < l.length) = false := decide_eq_false (by omega)
  have g2 : decide ((a : Int) < 1) = false := decide_eq_false (by omega)
  have g3 : decide ((65535 : Int) < a) = false := decide_eq_false (by omega)
  have g4 : decide ((300 : Int) < a) = false := decide_eq_false (by omega)
  have g5 : ((a : Int) != a) = false := by simp
  have HR := Lib.hid hr0
  have HO := Lib.hid hok
  clear hr0 hok
  go_enter Try.func7, Try.ntmps7
  go_wp2_with fail
  refine (awake_calls w).mono ?_
  rintro e w1 ⟨rfl, hB1⟩
  go_wp2_with fail
  refine (New_calls a w1 h1 (by omega)).mono ?_
  rintro e w2 ⟨rfl, hA2, hB2⟩
  have hM : w.heap.size ≤ w1.heap.size := hB1.size
  obtain ⟨mb, hmb⟩ : ∃ b, b = w1.heap.size + 1 := ⟨_, rfl⟩
  obtain ⟨cb, hcb⟩ : ∃ b, b = w1.heap.size := ⟨_, rfl⟩
  rw [← hmb, ← hcb] at hA2
  rw [← hmb]
  have hB3 : Below w.heap.size w w2 := below_then hB1 hM hB2
  have hmb' : w.heap.size ≤ mb := by omega
  have hcb' : w.heap.size ≤ cb := by omega
  have hs2 : w.heap.size ≤ w2.heap.size := hB3.size
  clear hB1 hB2 hmb hcb hM
  have hlen : (M.new a).cells.length = a := by simp [M.new]
  have HL := Lib.hid hlen
  clear hlen
  go_wp2_with fail
  refine (cells_calls hA2).mono ?_
  rw [HL.out]
  rintro e w3 ⟨rfl, rfl⟩
  go_wp2_with fail
  refine (rnew_calls a w2 h1 (by omega)).mono ?_
  rintro e w4 ⟨g, c, rfl, hR4, hB4⟩
  have hA4 := hA2.below hB4
  have hB5 := below_then hB3 hs2 hB4
  have hS0 := Sim.start a
  have hR5 := RV.move (RV.lower hR4 hs2) (below_alloc (Below.refl _ _) (.cells #[.slice (some ⟨g, 0, none⟩) a c, .int .i64 0, .int .i64 0, .int .i64 0] 45))
  have hA5 := hA4.alloc (.cells #[.slice (some ⟨g, 0, none⟩) a c, .int .i64 0, .int .i64 0, .int .i64 0] 45)
  have hB6 := hB5.alloc hB5.size (.cells #[.slice (some ⟨g, 0, none⟩) a c, .int .i64 0, .int .i64 0, .int .i64 0] 45)
  have hK := blk_new w4 (.cells #[.slice (some ⟨g, 0, none⟩) a c, .int .i64 0, .int .i64 0, .int .i64 0] 45)
  have bm : w4.heap.size ≠ mb := by have := hA4.lt_mb; omega
  have bc : w4.heap.size ≠ cb := by have := hA4.lt_cb; omega
  have bw : w.heap.size ≤ w4.heap.size := hB5.size
  clear hA2 hB3 hs2 hR4 hB4 hA4 hB5
  have START := Lib.hid (show ∃ (k : Nat) (m : M) (r : R) (v : Value) (ts : List Int), k ≤ l.length ∧ Value.int .i64 0 = .int .i64 k ∧ ts.length ≤ k ∧ Sim m r ∧ OwnI (w4.alloc (.cells #[.slice (some ⟨g, 0, none⟩) a c, .int .i64 0, .int .i64 0, .int .i64 0] 45)) w.heap.size (.slice none 0 0) ts ∧ RV (w4.alloc (.cells #[.slice (some ⟨g, 0, none⟩) a c, .int .i64 0, .int .i64 0, .int .i64 0] 45)) w.heap.size (agg4 v r.c r.lv r.st) r ∧ At (w4.alloc (.cells #[.slice (some ⟨g, 0, none⟩) a c, .int .i64 0, .int .i64 0, .int .i64 0] 45)) mb cb m ∧ Below w.heap.size w (w4.alloc (.cells #[.slice (some ⟨g, 0, none⟩) a c, .int .i64 0, .int .i64 0, .int .i64 0] 45)) ∧ (w4.alloc (.cells #[.slice (some ⟨g, 0, none⟩) a c, .int .i64 0, .int .i64 0, .int .i64 0] 45)).heap[w4.heap.size]? = some (.cells #[v, .int .i64 r.c, .int .i64 r.lv, .int .i64 r.st] 45 (0, 0)) from ⟨0, M.new a, ⟨List.replicate a z123, 0, 0, 0⟩, _, [], by omega, rfl, Nat.le_refl _, hS0, OwnI.nil _ _, hR5, hA5, hB6, hK⟩)
  clear hS0 hR5 hA5 hB6 hK
  go_wp2
  go_loopw [10, 11] (fun t i wr => ∃ (k : Nat) (m : M) (r : R) (v : Value) (ts : List Int), k ≤ l.length ∧ i = .int .i64 k ∧ ts.length ≤ k ∧ Sim m r ∧ OwnI wr w.heap.size t ts ∧ RV wr w.heap.size (agg4 v r.c r.lv r.st) r ∧ At wr mb cb m ∧ Below w.heap.size w wr ∧ wr.heap[w4.heap.size]? = some (.cells #[v, .int .i64 r.c, .int .i64 r.lv, .int .i64 r.st] 45 (0, 0))) (fun _ i _ => l.length - (intOf i).toNat)
  case atStart => exact START.out
  case round =>
    obtain ⟨k, m, r, v, ts, hk, rfl, htl, hS, hT, hR, hA, hB, hK⟩ := hrel
    have hs := hB.size
    by_cases hlt : k < l.length
    · obtain ⟨ad, eA, x0, x1, x2, x3, x4⟩ := act_cells (actC_below hB HR.out) k hlt
      have hxo := HO.out (l.getD k act0) (by rw [List.getD_eq_getElem?_getD, List.getElem?_eq_getElem hlt]; exact List.getElem_mem hlt)
      generalize l.getD k act0 = x at *
      obtain ⟨xd, xp, xn, xm, xr⟩ := x
      simp only at x0 x1 x2 x3 x4
      subst eA
      obtain ⟨d0, d1⟩ := u8_of hxo.1
      obtain ⟨At', ct, rfl⟩ := hT.slice
      have htl' : ts.length ≤ 200 := by omega
      obtain ⟨q0, q1, q2, q3⟩ := box_cells hK
      have HK := Lib.hid hK
      clear hK hxo
      have n1 : wr.heap.size ≠ mb := by have := hA.lt_mb; omega
      have n2 : wr.heap.size ≠ cb := by have := hA.lt_cb; omega
      have hbz := below_alloc (Below.refl wr.heap.size wr) (.cells #[.slice none 0 0, .int .i64 0, .int .i64 0, .int .i64 0] 45)
      have z0 := cell_later hbz x0
      have z1 := cell_later hbz x1
      have z2 := cell_later hbz x2
      have z3 := cell_later hbz x3
      have z4 := cell_later hbz x4
      obtain ⟨qa0, qa1, qa2, qa3⟩ := box_cells (blk_alloc HK.out (.cells #[.slice none 0 0, .int .i64 0, .int .i64 0, .int .i64 0] 45))
      clear hbz
      go_upto_region 16 with fail
      go_cut [12, 13, 14] (fun s12 s13 s14 wx => Goes w mb cb w4.heap.size #[v, .int .i64 r.c, .int .i64 r.lv, .int .i64 r.st] (.slice At' ts.length ct) ts s12 s13 s14 wx)
      case first =>
        go_region_with (first | (go_at_call 23; refine (Does_at (w := wr) ?_ hB hA hmb' hcb' hR hT hS xd xp xn xm xr d0).mono ?_; (first | exact below_drew1 (Below.refl _ _) | exact below_alloc (below_drew1 (Below.refl _ _)) _); rintro e w5 ⟨x', m', r', h', rfl, hS', hA5, hR5, hT5, hB5, hK5⟩; obtain ⟨g5, c5, tl5, rfl, _, _, _, _, _⟩ := hR5.open; obtain ⟨l5, cc5, v5, s5⟩ := r'; simp only at hR5 ⊢; (try (have kb := hK5 wr.heap.size #[.slice none 0 0, .int .i64 0, .int .i64 0, .int .i64 0] n1 n2 (by first | (with_reducible exact blk_drew (blk_new wr _)) | (with_reducible exact blk_new wr.drew _)); obtain ⟨p0, p1, p2, p3⟩ := box_cells kb; have t0 := blk_frozen kb 0; have t1 := blk_frozen kb 1; have t2 := blk_frozen kb 2; have t3 := blk_frozen kb 3; have KB := Lib.hid kb; clear kb)); have HK5 := Lib.hid hK5; clear hK5))
        all_goals
          have hbw := HK5.out w4.heap.size _ bm bc (by first | (with_reducible exact blk_drew HK.out) | (with_reducible exact blk_alloc (blk_drew HK.out) _) | (with_reducible exact blk_drew (blk_alloc HK.out _)))
          clear HK5
          go_wp2_with fail
          go_meet
          first | (with_reducible exact goesA hS' hA5 hR5 hT5 hB5 hbw) | (with_reducible exact goesB hS' hA5 hR5 hT5 hB5 hbw KB.out n1 n2 (by have := blk_lt HK.out; omega) hs)
      case rest =>
        clear hR hT hA hB hS HK q0 q1 q2 q3 z0 z1 z2 z3 z4 qa0 qa1 qa2 qa3 n1 n2 hs
        obtain ⟨b, m, r, v, h, rfl, rfl, rfl, kb, hbb, hS, hT, hR, hA, hB, hK⟩ := hcut
        obtain ⟨g7, c7, tl7, e7, z1, z2, z3, z4, z5⟩ := hR.open
        clear z1 z2 z3 z4 z5
        injection e7 with e7
        obtain rfl : v = .slice (some ⟨g7, 0, none⟩) r.l.length c7 := by simpa using e7
        clear e7
        obtain ⟨q0, q1, q2, q3⟩ := box_cells kb
        obtain ⟨p0, p1, p2, p3⟩ := box_cells hK
        have t0 := blk_frozen hK 0
        have t1 := blk_frozen hK 1
        have t2 := blk_frozen hK 2
        have t3 := blk_frozen hK 3
        have ho := only4 wc w4.heap.size (.slice (some ⟨g7, 0, none⟩) r.l.length c7) (.int .i64 r.c) (.int .i64 r.lv) (.int .i64 r.st)
        obtain ⟨wd, hwd⟩ : ∃ wd : World, wd = (((wc.setCell ⟨w4.heap.size, 0, none⟩ (.slice (some ⟨g7, 0, none⟩) r.l.length c7)).setCell ⟨w4.heap.size, 1, none⟩ (.int .i64 r.c)).setCell ⟨w4.heap.size, 2, none⟩ (.int .i64 r.lv)).setCell ⟨w4.heap.size, 3, none⟩ (.int .i64 r.st) := ⟨_, rfl⟩
        have hT2 : OwnI wd w.heap.size (.slice At' ts.length ct) ts := hwd ▸ hT.only ho hK (by decide)
        have hR2 : RV wd w.heap.size (agg4 (.slice (some ⟨g7, 0, none⟩) r.l.length c7) r.c r.lv r.st) r := hwd ▸ RV.only hR ho hK (by decide)
        have hA2 : At wd mb cb m := hwd ▸ hA.only ho (Ne.symm bm) (Ne.symm bc)
        have hB2 : Below w.heap.size w wd := hwd ▸ Below.only hB ho bw
        have hK2 : wd.heap[w4.heap.size]? = some (.cells #[.slice (some ⟨g7, 0, none⟩) r.l.length c7, .int .i64 r.c, .int .i64 r.lv, .int .i64 r.st] 45 (0, 0)) := hwd ▸ blk4 hK (.slice (some ⟨g7, 0, none⟩) r.l.length c7) (.int .i64 r.c) (.int .i64 r.lv) (.int .i64 r.st)
        have HK := Lib.hid hK2
        have HWD := Lib.hid hwd
        clear hK2 hwd
        have E1 := Lib.hid hS.c
        have E2 := Lib.hid hS.lv
        have E3 := Lib.hid hS.st
        clear ho hK hT hR hA hB kb
        go_upto_region 18 with fail
        rw [← HWD.out]
        clear HWD q0 q1 q2 q3 p0 p1 p2 p3 t0 t1 t2 t3
        by_cases hp : 0 < h
        · have g6 : decide (0 < h) = true := decide_eq_true hp
          go_wp2_with (at_builtin; refine append_I (w0 := w) rfl _ _ rfl w.heap.size _ ts h hT2 rfl rfl hB2 hB2.size (by omega) ?_)
          intro v1 w6 hO6 hB6 hg6 hat
          have hA6 := hA2.grown hT2 hg6
          have hR6 := RV.grown hR2 hT2 hg6
          have hK6 := blk_grown HK.out hg6 (hT2.ne HK.out (by decide))
          obtain ⟨y0, y1, y2, y3⟩ := box_cells hK6
          clear hg6 hat hT2 hR2 hA2 hB2 HK
          have HK6 := Lib.hid hK6
          clear hK6
          go_wp2_with fail
          go_quiet ((first | (go_at_call 24; exact count_quiet hA6 E1.out _) | (go_at_call 15; exact live_quiet hA6 E2.out _) | (go_at_call 25; exact stale_quiet hA6 E3.out _)))
          go_wp2
          go_roundw
          case rel => exact ⟨k + 1, m, r, _, ts ++ [h], by omega, by go_num, by simp; omega, hS, OwnI.move hO6 (fun _ _ => rfl), RV.keep hR6 (fun _ _ => rfl), hA6.drewN _, pw_below_drewN hB6 _, HK6.out⟩
          case measure => simp [intOf]; omega
        · have g6 : decide (0 < h) = false := decide_eq_false hp
          have hA6 := hA2
          have HK6 := HK
          obtain ⟨y0, y1, y2, y3⟩ := box_cells HK.out
          go_wp2_with fail
          go_quiet ((first | (go_at_call 24; exact count_quiet hA6 E1.out _) | (go_at_call 15; exact live_quiet hA6 E2.out _) | (go_at_call 25; exact stale_quiet hA6 E3.out _)))
          go_wp2
          go_roundw
          case rel => exact ⟨k + 1, m, r, _, ts, by omega, by go_num, by omega, hS, OwnI.move hT2 (fun _ _ => rfl), RV.keep hR2 (fun _ _ => rfl), hA2.drewN _, pw_below_drewN hB2 _, HK.out⟩
          case measure => simp [intOf]; omega
    · have E1 := Lib.hid (show m.tick.count = wrap64 (r.c + 1) by unfold M.tick; rw [hS.c])
      have HK := Lib.hid hK
      clear hR hT hK hS
      go_wp2_with fail
      refine (Alloc_nil hA).mono ?_
      rintro e w6 ⟨rfl, hA6, hF6⟩
      have hK6 := (hF6.block _ (blk_lt HK.out) bm bc).trans HK.out
      obtain ⟨y0, y1, y2, y3⟩ := box_cells hK6
      have hB6 := hF6.over hB hs hmb' hcb'
      clear hK6 HK hA hF6 hB
      go_wp2_with fail
      go_quiet ((go_at_call 24; exact count_quiet hA6 E1.out _))
      go_wp2
      go_ret
      exact ⟨rfl, pw_below_drewN hB6 _⟩
theorem MemPlays_walk (a : Int) (A : Option Addr) (cap : Nat) (l : List Act) (w : World) (hr0 : actKd.C w A l.length l) (hok : ∀ x ∈ l, x.ok) :
    Calls Try.prog 7 #[.int .i64 a, .slice A l.length cap] w fun e w' => e = .returned (.bool true) ∧ Below w.heap.size w w' := by
  by_cases hl : 200 < l.length
  · exact MemPlays_long a A cap l hl w
  · have hl' : l.length ≤ 200 := by omega
    by_cases h1 : a < 1 ∨ 65535 < a
    · exact MemPlays_bad a A cap l hl' w h1
    · by_cases h2 : 300 < a
      · exact MemPlays_big a A cap l hl' w h2 (by omega)
      · obtain ⟨n, rfl⟩ : ∃ n : Nat, a = n := ⟨a.toNat, by omega⟩
        exact MemPlays_main n (by omega) (by omega) A cap l hl' w hr0 hok
end
end Go.Proofs.Ythghhkdichbijaa.Mem
