/- RegPlays, by hand: whatever befalls a register, each answer, and which versions are needed, are the document's. -/
import Derived.Test.YtahnmklofgnagaaRegPub
namespace Go.Proofs.Ytahnmklofgnagaa.Mem
open Go.RowKit Go.Proofs.YtahnmklofgnagaaW.PrintWords Go.Proofs.YtahnmklofgnagaaW.PrintLast Go.Proofs.Ytahnmklofgnagaa.Tags
set_option linter.unusedVariables false
set_option linter.unusedSimpArgs false
section
variable {w0 w w' : World} {pb mb cb : Nat} {m : M}
set_option maxHeartbeats 1600000 in
set_option maxRecDepth 100000 in
theorem rp1_fn (h : St w0 w pb mb cb m) {ba bs : Nat} {a s : Int} (ka : w.heap[ba]? = some (.cells #[.int .i64 a] 3 (0, 0))) (ks : w.heap[bs]? = some (.cells #[.int .i64 s] 3 (0, 0))) (hab : a < 1 ∨ 64 < a ∨ s < 0 ∨ 64 < s) :
    Calls Try.prog 55 #[ptr pb, .pointer (some ⟨ba, 0, none⟩), .pointer (some ⟨bs, 0, none⟩)] w fun e w' => e = .returned (.iface 4 (.bool true)) ∧ (St w0 w' pb mb cb m ∧ Fr w w' mb cb) := by
  have a0 := box1 ka
  have s0 := box1 ks
  have HC := Lib.hid (regInit_no h 1 a s hab)
  clear ka ks hab h
  go_enter Try.func55, Try.ntmps55
  go_wp2_with fail
  refine HC.out.mono ?_
  rintro e W1 ⟨rfl, h1, hF⟩
  obtain ⟨W2, hW2⟩ : ∃ y : World, y = W1.alloc (.cells #[.int .i64 0, .slice none 0 0, .slice none 0 0] 80) := ⟨_, rfl⟩
  have hb : Below W1.heap.size W1 W2 := hW2 ▸ below_alloc (Below.refl _ _) _
  have FIN := Lib.hid (And.intro (h1.below hb) (hF.trans (Fr.of_below hb mb cb)))
  have HW2 := Lib.hid hW2
  clear hW2 hb h1 hF HC a0 s0
  go_upto_region 2 with fail
  rw [← HW2.out]
  go_wp2_with fail
  go_ret
  exact ⟨rfl, FIN.out⟩
theorem boxed2i (w : World) (a s : Int) : ∃ W, W = (w.alloc (.cells #[.int .i64 a] 3)).alloc (.cells #[.int .i64 s] 3) ∧ W.heap[w.heap.size]? = some (.cells #[.int .i64 a] 3 (0, 0)) ∧ W.heap[w.heap.size + 1]? = some (.cells #[.int .i64 s] 3 (0, 0)) ∧ Below w.heap.size w W := by
  have nw : ∀ (u : World) (o : Obj) (q : Nat), u.heap.size = q → (u.alloc o).heap[q]? = some o := fun u o q e => by rw [← e]; exact blk_new u o
  exact ⟨_, rfl, blk_alloc (blk_new _ _) _, nw _ _ _ (by simp), below_alloc (below_alloc (Below.refl _ _) _) _⟩
set_option maxHeartbeats 1600000 in
set_option maxRecDepth 100000 in
theorem RegPlays_long (a s : Int) (Al : Option Addr) (cap : Nat) (l : List Act) (hl : 150 < l.length) (w : World) :
    Calls Try.prog 10 #[.int .i64 a, .int .i64 s, .slice Al l.length cap] w fun e w' => e = .returned (.bool true) ∧ Below w.heap.size w w' := by
  have g1 : decide (150 < l.length) = true := decide_eq_true hl
  have g2 : decide ((150 : Int) < (l.length : Int)) = true := decide_eq_true (by omega)
  obtain ⟨W1, hW1, _, _, hB1⟩ := boxed2i w a s
  have HW1 := Lib.hid hW1
  have HB1 := Lib.hid hB1
  clear hW1 hB1
  go_enter Try.func10, Try.ntmps10
  go_upto_region 1 with fail
  rw [← HW1.out]
  clear HW1
  go_wp2_with fail
  refine (awake15_calls W1).mono ?_
  rintro e W2 ⟨rfl, hB2⟩
  have HB2 := Lib.hid (below_then HB1.out HB1.out.size hB2)
  clear hB2
  go_wp2_with fail
  refine (awake15_calls W2).mono ?_
  rintro e W3 ⟨rfl, hB3⟩
  have HB3 := Lib.hid (below_then HB2.out HB2.out.size hB3)
  clear hB3
  go_wp2_with fail
  go_ret
  exact ⟨rfl, HB3.out⟩
set_option maxHeartbeats 3200000 in
set_option maxRecDepth 100000 in
theorem RegPlays_bad (a s : Int) (Al : Option Addr) (cap : Nat) (l : List Act) (hl : l.length ≤ 150) (hab : a < 1 ∨ 64 < a ∨ s < 0 ∨ 64 < s) (w : World) :
    Calls Try.prog 10 #[.int .i64 a, .int .i64 s, .slice Al l.length cap] w fun e w' => e = .returned (.bool true) ∧ Below w.heap.size w w' := by
  have g1 : decide (150 < l.length) = false := decide_eq_false (by omega)
  have g2 : decide ((150 : Int) < (l.length : Int)) = false := decide_eq_false (by omega)
  obtain ⟨W1, hW1, ka, ks, hB1⟩ := boxed2i w a s
  have HW1 := Lib.hid hW1
  have HB1 := Lib.hid hB1
  have HA := Lib.hid hab
  have HKA := Lib.hid ka
  have HKS := Lib.hid ks
  clear hW1 hB1 ka ks
  have cases4 : (decide (a < 1) = true) ∨ (decide (a < 1) = false ∧ decide (64 < a) = true) ∨ (decide (a < 1) = false ∧ decide (64 < a) = false ∧ decide (s < 0) = true) ∨ (decide (a < 1) = false ∧ decide (64 < a) = false ∧ decide (s < 0) = false ∧ decide (64 < s) = true) := by
    simp only [decide_eq_true_eq, decide_eq_false_iff_not]
    omega
  clear hab
  rcases cases4 with c1 | ⟨c1, c2⟩ | ⟨c1, c2, c3⟩ | ⟨c1, c2, c3, c4⟩
  all_goals
    go_enter Try.func10, Try.ntmps10
    go_upto_region 1 with fail
    rw [← HW1.out]
    clear HW1
    go_wp2_with fail
    refine (awake15_calls W1).mono ?_
    rintro e W2 ⟨rfl, hB2⟩
    have HB2 := Lib.hid (below_then HB1.out HB1.out.size hB2)
    have ka2 := blk_below HKA.out hB2
    have ks2 := blk_below HKS.out hB2
    have HA2 := Lib.hid ka2
    have HS2 := Lib.hid ks2
    have a0 := box1 ka2
    have s0 := box1 ks2
    clear hB2 ka2 ks2 HKA HKS HB1
    go_wp2_with fail
    refine (New_calls 5 W2 (by decide) (by decide)).mono ?_
    rintro e W3 ⟨rfl, hA3, hB3⟩
    obtain ⟨mb, hmb⟩ : ∃ y, W2.heap.size + 1 = y := ⟨_, rfl⟩
    obtain ⟨cb, hcb⟩ : ∃ y, W2.heap.size = y := ⟨_, rfl⟩
    rw [hmb, hcb] at hA3
    rw [hmb]
    have hbm : w.heap.size ≤ mb ∧ w.heap.size ≤ cb := by have := HB2.out.size; omega
    have HB3 := Lib.hid (below_then HB2.out HB2.out.size hB3)
    have hbp : Below W3.heap.size W3 (W3.alloc (port0 mb)) := below_alloc (Below.refl _ _) _
    have HD := Lib.hid (do2_calls (mb := mb) (fun args W => enters_ Try.func55 (by kernel_rfl) rfl args W) (rp1_fn (w0 := W3) ⟨hA3.below hbp, blk_new _ _, Fr.of_below hbp mb cb⟩ (blk_below (blk_below HA2.out hB3) hbp) (blk_below (blk_below HS2.out hB3) hbp) HA.out))
    have HFP := Lib.hid (Fr.of_below hbp mb cb)
    have hmf := makeFunc_run
    have hta := ta_bool true
    have HBM := Lib.hid hbm
    clear hA3 hB3 hmb hcb hbm hbp a0 s0 HA2 HS2 HB2
    go_wp2_with fail
    refine HD.out.mono ?_
    clear HD
    rintro e W4 ⟨rfl, hS4, hF4⟩
    have HF4 := Lib.hid ((HFP.out.trans hF4).over HB3.out HB3.out.size HBM.out.1 HBM.out.2)
    have HA4 := Lib.hid hS4.A
    have hlv : (M.new 5).live = 0 := rfl
    have hlc := live_calls HA4.out
    rw [hlv] at hlc
    have HLC := Lib.hid hlc
    clear hS4 hF4 hlv hlc hmf
    go_wp2_with fail
    refine HLC.out.mono ?_
    rintro e W5 ⟨rfl, rfl⟩
    go_wp2_with fail
    go_ret
    exact ⟨rfl, HF4.out⟩
theorem usOf_rep (n : Nat) : usOf (List.replicate n (-1)) = List.replicate n 0 := by unfold usOf; rw [List.map_replicate]; rfl
theorem vsOf_rep (n : Nat) : vsOf (List.replicate n (0, -1)) = List.replicate n 0 := by unfold vsOf; rw [List.map_replicate]; rfl
theorem rep_getD {α : Type} (n j : Nat) (x y : α) (h : j < n) : (List.replicate n x).getD j y = x := by rw [List.getD_eq_getElem?_getD, List.getElem?_replicate, if_pos h]; rfl
theorem Al15.gmore {m : M} {top hd : Int} {d : D} {ts ss : List Int} {k : Nat} {g g' b : Int} {r : Rg} (h : Al15 m top hd d ts ss k g b r) (hg : g ≤ g') : Al15 m top hd d ts ss k g' b r :=
  ⟨⟨h.Y.T, ⟨h.Y.S.len, h.Y.S.used, h.Y.S.live, fun c hc => by have := h.Y.S.gens c hc; omega, h.Y.S.big⟩, h.Y.ok, h.Y.ws, h.Y.wp, h.Y.nd, h.Y.n1, h.Y.n3⟩, h.v, h.vb, h.sb, h.pb⟩
/-- Between the acts. -/
structure Lp (w0 : World) (mb cb yb gb : Nat) (top : Int) (A : Option Addr) (ca : Nat) (B : Option Addr) (cc : Nat) (ts ss : List Int) (kk k : Nat) (m : M) (hd : Int) (d : D) (r : Rg) (vs vp : Value) (ids : List Int) (v14 : Value) (wr : World) : Prop where
  O : OwnI wr w0.heap.size v14 ids
  il : ids.length ≤ k
  ib : ∀ x ∈ ids, x ≤ 9223372036854775807
  Am : At wr mb cb m
  R : RegAt wr w0.heap.size A ca B cc ts ss
  L : Al15 m top hd d ts ss kk (2 * k) k r
  vk : r.V ≤ 40 * k
  ky : wr.heap[yb]? = some (.cells #[ptr mb, .int .i64 top, .slice A ts.length ca, .slice B ss.length cc] 86 (0, 0))
  kg : wr.heap[gb]? = some (.cells #[.int .i64 r.V, vs, vp] 97 (0, 0))
  X : RgV wr (.agg #[.int .i64 r.V, vs, vp]) r
  Bw : Below w0.heap.size w0 wr
  ap : ∀ q, v14.ownBlock = some q → (Value.slice A ts.length ca).ownBlock ≠ some q ∧ (Value.slice B ss.length cc).ownBlock ≠ some q ∧ vs.ownBlock ≠ some q
section
variable {yb gb kk k : Nat} {top hd : Int} {A B : Option Addr} {ca cc : Nat} {ts ss : List Int} {d : D} {r r' : Rg} {vs vp vs' vp' v14 : Value} {ids : List Int} {wr W1 W2 : World} {m' : M}
theorem Lp.below (h : Lp w0 mb cb yb gb top A ca B cc ts ss kk k m hd d r vs vp ids v14 wr) (hb : Below wr.heap.size wr W1) : Lp w0 mb cb yb gb top A ca B cc ts ss kk k m hd d r vs vp ids v14 W1 :=
  ⟨h.O.below hb, h.il, h.ib, h.Am.below hb, h.R.below hb, h.L, h.vk, blk_below h.ky hb, blk_below h.kg hb, h.X.below hb, below_then h.Bw h.Bw.size hb, h.ap⟩
/-- Another act is done. -/
theorem Lp.next (h : Lp w0 mb cb yb gb top A ca B cc ts ss kk k m hd d r vs vp ids v14 wr) (hm : w0.heap.size ≤ mb ∧ w0.heap.size ≤ cb) (hF : Fr wr W1 mb cb) (hA : At W1 mb cb m') {hd' : Int} {d' : D} (hL : Al15 m' top hd' d' ts ss kk (2 * (k + 1 : Nat)) (k + 1 : Nat) r') (hv : r'.V ≤ 40 * (k + 1 : Nat)) (hX : RgV W1 (.agg #[.int .i64 r'.V, vs', vp']) r') (how : Ow vs wr.heap.size vs') (ho : Only W1 W2 gb) (hg0 : w0.heap.size ≤ gb) (hk : W2.heap[gb]? = some (.cells #[.int .i64 r'.V, vs', vp'] 97 (0, 0))) : Lp w0 mb cb yb gb top A ca B cc ts ss kk (k + 1) m' hd' d' r' vs' vp' ids v14 W2 := by
  have kg1 := hF.blk h.Am h.kg (by decide) (by decide)
  have ky1 := hF.blk h.Am h.ky (by decide) (by decide)
  refine ⟨(h.O.fr h.Am hF).only1 ho kg1 (by decide), Nat.le_succ_of_le h.il, h.ib, hA.only ho (Ne.symm (blk_ne kg1 hA.hm (by decide))) (Ne.symm (blk_ne kg1 hA.hc (by decide))), (h.R.fr h.Am hF).only ho kg1 (by decide), hL, hv, (ho.block yb (blk_ne ky1 kg1 (by decide))).trans ky1, hk, hX.only ho kg1 (by decide) (by decide), bel_only (hF.over h.Bw h.Bw.size hm.1 hm.2) ho hg0, fun q hq => ?_⟩
  obtain ⟨a1, a2, a3⟩ := h.ap q hq
  refine ⟨a1, a2, fun e => ?_⟩
  rcases how with c | ⟨g, c, c2⟩
  · exact a3 (c.symm.trans e)
  · rw [c] at e
    injection e with e
    have := h.O.lt hq
    omega
/-- An id is kept. -/
theorem Lp.add (h : Lp w0 mb cb yb gb top A ca B cc ts ss kk k m hd d r vs vp ids v14 wr) (x : Int) (hx : x ≤ 9223372036854775807) (hl : ids.length + 1 ≤ k) {v1 : Value} (hO : OwnI W1 w0.heap.size v1 (ids ++ [x])) (hB : Below w0.heap.size w0 W1) (hg : wr.grownBy W1 v14.ownBlock) (hat : v1.ownBlock = v14.ownBlock ∨ ∃ b, v1.ownBlock = some b ∧ wr.heap.size ≤ b) : Lp w0 mb cb yb gb top A ca B cc ts ss kk k m hd d r vs vp (ids ++ [x]) v1 W1 := by
  have mv : ∀ {base : Nat} {u : Value} {ys : List Int}, OwnI wr base u ys → (∀ k, v14.ownBlock = some k → u.ownBlock ≠ some k) → OwnI W1 base u ys := fun hu hn => hu.move fun i hi => hg.block i (hu.lt hi) (fun e => hn i e.symm hi)
  have h3' : ∃ base, OwnI wr base vs r.S := by
    obtain ⟨a1, a2, vs1, vp1, e, h3, h4⟩ := h.X
    injection e with e
    have e' : vs = vs1 ∧ vp = vp1 := by simpa using e
    obtain ⟨rfl, rfl⟩ := e'
    exact ⟨_, h3⟩
  refine ⟨hO, by simpa using hl, fun y hy => ?_, h.Am.grown h.O hg, ⟨mv h.R.a (fun k hk => (h.ap k hk).1), mv h.R.b (fun k hk => (h.ap k hk).2.1), h.R.la, h.R.lb⟩, h.L, h.vk, blk_grown h.ky hg (h.O.ne h.ky (by decide)), blk_grown h.kg hg (h.O.ne h.kg (by decide)), ?_, hB, fun q hq => ?_⟩
  · rcases List.mem_append.1 hy with hy | hy
    · exact h.ib y hy
    · simp at hy
      omega
  · obtain ⟨a1, a2, vs1, vp1, e, h3, h4⟩ := h.X
    injection e with e
    have e' : vs = vs1 ∧ vp = vp1 := by simpa using e
    obtain ⟨rfl, rfl⟩ := e'
    exact ⟨a1, a2, _, _, rfl, mv h3 (fun k hk => (h.ap k hk).2.2), h4.move fun i hi => by
      obtain ⟨cs, hc⟩ := own_typed h4 i hi
      exact hg.block i (blk_lt hc) (h.O.ne hc (by decide))⟩
  · rcases hat with e | ⟨b, e, hb⟩
    · exact h.ap q (e.symm.trans hq)
    · rw [e] at hq
      injection hq with hq
      subst hq
      obtain ⟨_, h3⟩ := h3'
      exact ⟨fun c => by have := h.R.a.lt c; omega, fun c => by have := h.R.b.lt c; omega, fun c => by have := h3.lt c; omega⟩
end
/-- What the loop holds. -/
def LoopR (w0 : World) (mb cb yb gb : Nat) (top : Int) (A : Option Addr) (ca : Nat) (B : Option Addr) (cc : Nat) (ts ss : List Int) (kk n : Nat) (v14 v15 : Value) (wr : World) : Prop := ∃ (k : Nat) (m : M) (hd : Int) (d : D) (r : Rg) (vs vp : Value) (ids : List Int), k ≤ n ∧ v15 = .int .i64 k ∧ Lp w0 mb cb yb gb top A ca B cc ts ss kk k m hd d r vs vp ids v14 wr
theorem i64_top {n : Int} (h : (Lit.int .i64 n).wf = true) : n ≤ 9223372036854775807 := by
  have h' : -9223372036854775808 ≤ n ∧ n ≤ 9223372036854775807 := by simpa [Lit.wf, IntKind.min, IntKind.max, IntKind.signed, IntKind.bits] using h
  exact h'.2
set_option maxHeartbeats 12800000 in
set_option maxRecDepth 100000 in
theorem RegPlays_main (a s : Nat) (ha : 1 ≤ a) (ha' : a ≤ 64) (hs : s ≤ 64) (Al : Option Addr) (cap : Nat) (l : List Act) (hl : l.length ≤ 150) (w : World) (hr0 : actKd.C w Al l.length l) (hok : ∀ x ∈ l, x.ok) :
    Calls Try.prog 10 #[.int .i64 a, .int .i64 s, .slice Al l.length cap] w fun e w' => e = .returned (.bool true) ∧ Below w.heap.size w w' := by
  have g1 : decide (150 < l.length) = false := decide_eq_false (by omega)
  have g2 : decide ((150 : Int) < (l.length : Int)) = false := decide_eq_false (by omega)
  have c1 : decide ((a : Int) < 1) = false := decide_eq_false (by omega)
  have c2 : decide ((64 : Int) < (a : Int)) = false := decide_eq_false (by omega)
  have c3 : decide ((s : Int) < 0) = false := decide_eq_false (by omega)
  have c4 : decide ((64 : Int) < (s : Int)) = false := decide_eq_false (by omega)
  obtain ⟨M1, M2, M3, y, t, st, ts, ss, e1, e2, e3, l1, l2, hY⟩ := lay15_val (a := a) (b := s) ha' hs
  obtain ⟨W1, hW1, ka, ks, hB1⟩ := boxed2i w a s
  have HW1 := Lib.hid hW1
  have HB1 := Lib.hid hB1
  have HKA := Lib.hid ka
  have HKS := Lib.hid ks
  have HR0 := Lib.hid hr0
  have HOK := Lib.hid hok
  have HLL := Lib.hid (And.intro l1 l2)
  have HLAY := Lib.hid (fun w => lay15_calls (a := a) (b := s) ha ha' hs e1 e2 e3 (by omega) (by omega) w)
  have HL0 := Lib.hid (show Al15 M3 t y ⟨0, 0, st, none, 0, 0⟩ ts ss (3 + a + s) 0 0 ⟨0, List.replicate a (-1), List.replicate s (0, -1)⟩ from
    ⟨by rw [usOf_rep, vsOf_rep]; exact hY, rfl, ⟨Int.le_refl 0, by show (0 : Int) ≤ 1000000; omega⟩, fun j hj => by simp only [List.length_replicate] at hj; simp only [rep_getD a j (-1 : Int) 0 hj]; omega, fun j hj => by simp only [List.length_replicate] at hj; simp only [rep_getD s j ((0 : Int), (-1 : Int)) (0, 0) hj]; omega⟩)
  have HAS := Lib.hid (And.intro ha (And.intro ha' (And.intro hs hl)))
  clear hW1 hB1 ka ks hr0 hok l1 l2 hY e1 e2 e3 ha ha' hs
  go_enter Try.func10, Try.ntmps10
  go_upto_region 1 with fail
  rw [← HW1.out]
  clear HW1
  go_wp2_with fail
  refine (awake15_calls W1).mono ?_
  rintro e W2 ⟨rfl, hB2⟩
  have HB2 := Lib.hid (below_then HB1.out HB1.out.size hB2)
  have ka2 := blk_below HKA.out hB2
  have ks2 := blk_below HKS.out hB2
  have HA2 := Lib.hid ka2
  have HS2 := Lib.hid ks2
  have a0 := box1 ka2
  have s0 := box1 ks2
  clear hB2 ka2 ks2 HKA HKS HB1
  go_wp2_with fail
  refine (HLAY.out W2).mono ?_
  clear HLAY
  rintro e W3 ⟨mb, cb, A, ca, B, cc, rfl, hA, hR, hB3, hmb, hcb⟩
  obtain ⟨W4, hW4⟩ : ∃ W4 : World, W4 = W3.alloc (.cells #[ptr mb, .int .i64 t, .slice A ts.length ca, .slice B ss.length cc] 86) := ⟨_, rfl⟩
  have hb4 : Below W3.heap.size W3 W4 := hW4 ▸ below_alloc (Below.refl _ _) _
  obtain ⟨yb, hyb⟩ : ∃ q, W3.heap.size = q := ⟨_, rfl⟩
  have ky4 : W4.heap[yb]? = some (.cells #[ptr mb, .int .i64 t, .slice A ts.length ca, .slice B ss.length cc] 86 (0, 0)) := hyb ▸ hW4 ▸ blk_new _ _
  have hB3' := below_then HB2.out HB2.out.size hB3
  have HBM := Lib.hid (show w.heap.size ≤ mb ∧ w.heap.size ≤ cb from by have := HB2.out.size; omega)
  have HB4 := Lib.hid (below_then hB3' hB3'.size hb4)
  have HA4 := Lib.hid (hA.below hb4)
  have hR' := hR.below hb4
  have HR4 := Lib.hid (show RegAt W4 w.heap.size A ca B cc ts ss from ⟨hR'.a.lower HB2.out.size, hR'.b.lower HB2.out.size, hR'.la, hR'.lb⟩)
  have ka4 := blk_below (blk_below HA2.out hB3) hb4
  have ks4 := blk_below (blk_below HS2.out hB3) hb4
  have HKY := Lib.hid ky4
  have HW4 := Lib.hid hW4
  have HYB := Lib.hid hyb
  clear hA hR hR' hB3 hB3' hmb hcb hW4 hb4 hyb ky4 HA2 HS2 HB2 a0 s0
  have a0 := box1 ka4
  have s0 := box1 ks4
  clear ka4 ks4
  go_upto_region 10 with fail
  rw [← HW4.out, HYB.out]
  clear HW4 HYB
  go_wp2_with fail
  refine (rgnew_calls 0 a s HAS.out.2.1 HAS.out.2.2.1 W4).mono ?_
  rintro e W5 ⟨x5, rfl, hX5, hB5⟩
  obtain ⟨vs5, vp5, rfl⟩ := regv_open hX5
  obtain ⟨⟨Av, nv_, cv, evs⟩, ⟨Ap, np_, cp, evp⟩⟩ := regv_kind hX5
  subst evs evp
  obtain ⟨W6, hW6⟩ : ∃ q : World, q = W5.alloc (.cells #[.int .i64 0, .slice Av nv_ cv, .slice Ap np_ cp] 97) := ⟨_, rfl⟩
  have hb6 : Below W5.heap.size W5 W6 := hW6 ▸ below_alloc (Below.refl _ _) _
  obtain ⟨gb, hgb⟩ : ∃ q, W5.heap.size = q := ⟨_, rfl⟩
  have kg6 : W6.heap[gb]? = some (.cells #[.int .i64 0, .slice Av nv_ cv, .slice Ap np_ cp] 97 (0, 0)) := hgb ▸ hW6 ▸ blk_new _ _
  have hb56 := below_then hB5 hB5.size hb6
  have HGB := Lib.hid (show w.heap.size ≤ gb from by have := HB4.out.size; have := hB5.size; omega)
  have START := Lib.hid (show LoopR w mb cb yb gb t A ca B cc ts ss (3 + a + s) l.length (.slice none 0 0) (.int .i64 0) W6 from ⟨0, M3, y, _, ⟨0, List.replicate a (-1), List.replicate s (0, -1)⟩, _, _, [], Nat.zero_le _, rfl, OwnI.nil _ _, Nat.le_refl _, (fun x hx => by cases hx), HA4.out.below hb56, HR4.out.below hb56, HL0.out, Int.le_refl _, blk_below HKY.out hb56, kg6, hX5.below hb6, below_then HB4.out HB4.out.size hb56, fun q hq => by cases hq⟩)
  have HW6 := Lib.hid hW6
  have HGE := Lib.hid hgb
  clear hX5 hB5 hW6 hb6 hgb kg6 hb56 HA4 HR4 HL0 HKY HB4 a0 s0
  (try simp only at HW6)
  (try simp only)
  go_upto_region 13 with fail
  rw [← HW6.out, HGE.out]
  clear HW6 HGE
  go_wp2_with fail
  go_loopw [14, 15] (fun v14 v15 wr => LoopR w mb cb yb gb t A ca B cc ts ss (3 + a + s) l.length v14 v15 wr) (fun _ i _ => l.length - (intOf i).toNat)
  case atStart => exact START.out
  case round =>
    obtain ⟨k, m, hd, d, r, vs, vp, ids, hk, rfl, hLp⟩ := hrel
    clear START
    by_cases hlt : k < l.length
    · have gl : decide ((k : Int) < (l.length : Int)) = true := decide_eq_true (by omega)
      obtain ⟨ad, eA, x0, x1, x2, x3, x4⟩ := act_cells (actC_below hLp.Bw HR0.out) k hlt
      have hxo := HOK.out (l.getD k act0) (by rw [List.getD_eq_getElem?_getD, List.getElem?_eq_getElem hlt]; exact List.getElem_mem hlt)
      generalize l.getD k act0 = x at *
      obtain ⟨xd, xp, xn, xm, xr⟩ := x
      simp only at x0 x1 x2 x3 x4
      subst eA
      obtain ⟨d0, d1⟩ : 0 ≤ xd ∧ xd < 256 := u8_of hxo.1
      have hn9 : xn ≤ 9223372036854775807 := i64_top hxo.2.2.1
      obtain ⟨bu, cu, rfl⟩ := hLp.O.slice
      obtain ⟨⟨Av1, nv1, cv1, evs⟩, ⟨Ap1, np1, cp1, evp⟩⟩ := regv_kind hLp.X
      subst evs evp
      obtain ⟨W7, hW7⟩ : ∃ q : World, q = wr.alloc (.cells #[.int .u8 xd, .int .i64 xp, .int .i64 xn, .int .i64 xm, .bool xr] 91) := ⟨_, rfl⟩
      have hb7 : Below wr.heap.size wr W7 := hW7 ▸ below_alloc (Below.refl _ _) _
      obtain ⟨xb, hxb⟩ : ∃ q, wr.heap.size = q := ⟨_, rfl⟩
      have kx7 : W7.heap[xb]? = some (.cells #[.int .u8 xd, .int .i64 xp, .int .i64 xn, .int .i64 xm, .bool xr] 91 (0, 0)) := hxb ▸ hW7 ▸ blk_new _ _
      have hL7 := hLp.below hb7
      have HL7 := Lib.hid hL7
      have HKX := Lib.hid kx7
      have HW7 := Lib.hid hW7
      have HXB := Lib.hid hxb
      clear hxo hLp hW7 hb7 hxb
      go_upto_region 18 with fail
      rw [← HW7.out, HXB.out]
      clear HW7 HXB x0 x1 x2 x3 x4
      obtain ⟨x0, x1, x2, x3, x4⟩ := box5a kx7
      have cases4 : xr = true ∨ (xr = false ∧ decide (0 < ids.length) = false) ∨ (xr = false ∧ decide (0 < ids.length) = true ∧ decide (0 ≤ xn) = false) ∨ (xr = false ∧ 0 < ids.length ∧ 0 ≤ xn) := by
        cases xr with
        | true => exact Or.inl rfl
        | false =>
          by_cases q1 : 0 < ids.length
          · by_cases q2 : 0 ≤ xn
            · exact Or.inr (Or.inr (Or.inr ⟨rfl, q1, q2⟩))
            · exact Or.inr (Or.inr (Or.inl ⟨rfl, decide_eq_true q1, decide_eq_false q2⟩))
          · exact Or.inr (Or.inl ⟨rfl, decide_eq_false q1⟩)
      clear kx7 hL7
      rcases cases4 with c5 | ⟨c5, c6⟩ | ⟨c5, c6, c7⟩ | ⟨c5, c6, c7⟩
      · subst c5
        obtain ⟨y0, y1, y2, y3⟩ := box4 HL7.out.ky
        obtain ⟨q0, q1, q2⟩ := box3s HL7.out.kg
        by_cases h7 : xd % 7 = 0
        · have s7 : (xd % 7 == 0) = true := by simp [h7]
          obtain ⟨mo, hmo⟩ : ∃ q, xd / 7 = q := ⟨_, rfl⟩
          have hm0 : 0 ≤ mo ∧ mo ≤ 36 := by omega
          have f1 : wrap64 xd = xd := by unfold wrap64; omega
          have f2 : xd.tdiv 7 = mo := by rw [Int.tdiv_eq_ediv_of_nonneg d0]; exact hmo
          have f3 : (wrap64 xd).tdiv 7 = mo := by rw [f1]; exact f2
          have f4 : wrap64 mo = mo := by unfold wrap64; omega
          have hvk := HL7.out.vk
          have hvb := HL7.out.L.vb
          have hk150 : k < 150 := by have := HAS.out.2.2.2; omega
          have hkk : 3 + a + s ≤ 131 := by have := HAS.out; omega
          obtain ⟨N1, N2, N3, N4, N5, N6, gg, nc, e1, e2, e3, o3, e4, e5, o5, e6, hL8⟩ := HL7.out.L.publish (by omega) (by omega) (by omega) mo hm0.1 (by omega)
          have hver := HL7.out.L.v
          have f5 : wrap64 (r.V + 1) = r.V + 1 := by unfold wrap64; omega
          have f6 : wrap64 (r.V + 1 + mo) = r.V + 1 + mo := by unfold wrap64; omega
          have HPUB := Lib.hid (publishY_calls HL7.out.Am HL7.out.L.Y.ok (by rw [hver]; omega) (by rw [hver]; omega) hm0.1 (by omega) e1 e2 e3 o3 e4 e5 o5 e6 A B ts.length ca ss.length cc)
          have HL8 := Lib.hid hL8
          have HVK := Lib.hid (And.intro hvk (And.intro hm0 hk150))
          clear h7 hmo hm0 hvk hvb hkk e1 e2 e3 o3 e4 e5 o5 e6 hver hL8 hk150
          go_wp2_with fail
          refine HPUB.out.mono ?_
          clear HPUB
          rintro e W8 ⟨rfl, hA8, hF8⟩
          have kg8 := hF8.blk HL7.out.Am HL7.out.kg (by decide) (by decide)
          have kx8 := hF8.blk HL7.out.Am HKX.out (by decide) (by decide)
          have hX8 := HL7.out.X.fr HL7.out.Am hF8
          obtain ⟨a1, a2, vs1, vp1, ex, h3, h4⟩ := hX8
          obtain ⟨W9, hW9⟩ : ∃ q : World, q = W8.setCell ⟨gb, 0, none⟩ (.int .i64 (r.V + 1 + mo)) := ⟨_, rfl⟩
          have hO9 : Only W8 W9 gb := hW9 ▸ Only.set _ _ _
          have kg9 : W9.heap[gb]? = some (.cells #[.int .i64 (r.V + 1 + mo), .slice Av1 nv1 cv1, .slice Ap1 np1 cp1] 97 (0, 0)) := hW9 ▸ blk_put kg8 0 _ rfl
          have NEXT := Lib.hid (HL7.out.next HBM.out hF8 hA8 (r' := ⟨r.V + 1 + mo, r.S, r.P⟩) ((by have := HL8.out.more.gmore (g' := 2 * ((k + 1 : Nat) : Int)) (by omega); rw [show ((k : Int) + 1) = ((k + 1 : Nat) : Int) by omega] at this; exact this)) (by have := HVK.out; simp only; omega) (by
            injection ex with ex
            have e' : Value.slice Av1 nv1 cv1 = vs1 ∧ Value.slice Ap1 np1 cp1 = vp1 := by simpa using ex
            rw [e'.1, e'.2]
            exact ⟨a1, a2, _, _, rfl, h3, h4⟩) (Or.inl rfl) hO9 HGB.out kg9)
          obtain ⟨p0, p1, p2⟩ := box3s kg8
          have z0 := blk_frozen kg8 0
          obtain ⟨x0', x1', x2', x3', x4'⟩ := box5a kx8
          have HW9 := Lib.hid hW9
          clear hA8 hF8 kg8 kx8 a1 a2 ex h3 h4 hW9 hO9 kg9 y0 y1 y2 y3 q0 q1 q2 x0 x1 x2 x3 x4
          go_wp2_with fail
          rw [← HW9.out]
          go_roundw
          case rel => exact ⟨k + 1, N6, gg, _, ⟨r.V + 1 + mo, r.S, r.P⟩, _, _, ids, by omega, by go_num, NEXT.out⟩
          case measure => simp [intOf]; omega
        · have s7 : (xd % 7 == 0) = false := by simp [h7]
          have HDO := Lib.hid (does15_calls HL7.out.Am HL7.out.R HL7.out.L HL7.out.X (by have := HAS.out.2.2.2; omega) xn hn9 xd xp xn xm true d0 h7)
          have HVK := Lib.hid HL7.out.vk
          clear h7
          go_wp2_with fail
          refine HDO.out.mono ?_
          clear HDO
          rintro e W8 ⟨m8, r8, vs8, vp8, told, rfl, hA8, hL8, hV8, hX8, ht8, how8, hF8⟩
          obtain ⟨⟨Av8, nv8, cv8, evs⟩, ⟨Ap8, np8, cp8, evp⟩⟩ := regv_kind hX8
          subst evs evp
          obtain ⟨W9, hW9⟩ : ∃ q : World, q = W8.alloc (.cells #[.int .i64 r8.V, .slice Av8 nv8 cv8, .slice Ap8 np8 cp8] 97) := ⟨_, rfl⟩
          have hb9 : Below W8.heap.size W8 W9 := hW9 ▸ below_alloc (Below.refl _ _) _
          obtain ⟨nb, hnb⟩ : ∃ q, W8.heap.size = q := ⟨_, rfl⟩
          have kn9 : W9.heap[nb]? = some (.cells #[.int .i64 r8.V, .slice Av8 nv8 cv8, .slice Ap8 np8 cp8] 97 (0, 0)) := hnb ▸ hW9 ▸ blk_new _ _
          have kg9 := blk_below (hF8.blk HL7.out.Am HL7.out.kg (by decide) (by decide)) hb9
          obtain ⟨W10, hW10⟩ : ∃ q : World, q = set3r W9 gb (.int .i64 r8.V) (.slice Av8 nv8 cv8) (.slice Ap8 np8 cp8) := ⟨_, rfl⟩
          have hO10 : Only W9 W10 gb := hW10 ▸ only3r _ _ _ _ _
          have kg10 : W10.heap[gb]? = some (.cells #[.int .i64 r8.V, .slice Av8 nv8 cv8, .slice Ap8 np8 cp8] 97 (0, 0)) := hW10 ▸ blk3r kg9 _ _ _
          have hL10 := HL7.out.next HBM.out (hF8.below hb9) (hA8.below hb9) (r' := r8) (by have := hL8.gmore (g' := 2 * ((k + 1 : Nat) : Int)) (by omega); rw [show ((k : Int) + 1) = ((k + 1 : Nat) : Int) by omega] at this; exact this) (by have := HVK.out; rw [hV8]; omega) (hX8.below hb9) how8 hO10 HGB.out kg10
          have HL10 := Lib.hid hL10
          obtain ⟨p0, p1, p2⟩ := box3s kn9
          obtain ⟨o0, o1, o2⟩ := box3s kg9
          have z0 := blk_frozen kg9 0
          have z1 := blk_frozen kg9 1
          have z2 := blk_frozen kg9 2
          have HW9 := Lib.hid hW9
          have HW10 := Lib.hid hW10
          have HNB := Lib.hid hnb
          have HT8 := Lib.hid ht8
          unfold set3r at HW10
          clear hA8 hL8 hV8 hX8 ht8 how8 hF8 hW9 hb9 hnb kn9 kg9 hW10 hO10 kg10 hL10 y0 y1 y2 y3 q0 q1 q2 x0 x1 x2 x3 x4
          go_upto_region 26 with fail
          rw [← HW9.out, HNB.out]
          clear HW9 HNB
          go_upto_region 27 with fail
          rw [← HW10.out]
          clear HW10 p0 p1 p2 o0 o1 o2 z0 z1 z2
          by_cases ht : 0 ≤ told
          · have gt : decide (0 ≤ told) = true := decide_eq_true ht
            have hs10 := HL10.out.Bw.size
            have hil := HL7.out.il
            go_wp2_with (at_builtin; refine append_I (w0 := w) rfl _ _ rfl w.heap.size _ ids told HL10.out.O rfl rfl HL10.out.Bw hs10 (by have := HAS.out.2.2.2; omega) ?_)
            intro v1 w11 hO11 hB11 hg11 hat11
            have NEXT := Lib.hid (HL10.out.add told HT8.out (by omega) hO11 hB11 hg11 hat11)
            clear hO11 hB11 hg11 hat11 HL10
            go_wp2_with fail
            go_roundw
            case rel => exact ⟨k + 1, m8, hd, d, r8, _, _, ids ++ [told], by omega, by go_num, NEXT.out⟩
            case measure => simp [intOf]; omega
          · have gt : decide (0 ≤ told) = false := decide_eq_false ht
            go_wp2_with fail
            go_roundw
            case rel => exact ⟨k + 1, m8, hd, d, r8, _, _, ids, by omega, by go_num, HL10.out⟩
            case measure => simp [intOf]; omega
      · subst c5
        obtain ⟨y0, y1, y2, y3⟩ := box4 HL7.out.ky
        obtain ⟨q0, q1, q2⟩ := box3s HL7.out.kg
        by_cases h7 : xd % 7 = 0
        · have s7 : (xd % 7 == 0) = true := by simp [h7]
          obtain ⟨mo, hmo⟩ : ∃ q, xd / 7 = q := ⟨_, rfl⟩
          have hm0 : 0 ≤ mo ∧ mo ≤ 36 := by omega
          have f1 : wrap64 xd = xd := by unfold wrap64; omega
          have f2 : xd.tdiv 7 = mo := by rw [Int.tdiv_eq_ediv_of_nonneg d0]; exact hmo
          have f3 : (wrap64 xd).tdiv 7 = mo := by rw [f1]; exact f2
          have f4 : wrap64 mo = mo := by unfold wrap64; omega
          have hvk := HL7.out.vk
          have hvb := HL7.out.L.vb
          have hk150 : k < 150 := by have := HAS.out.2.2.2; omega
          have hkk : 3 + a + s ≤ 131 := by have := HAS.out; omega
          obtain ⟨N1, N2, N3, N4, N5, N6, gg, nc, e1, e2, e3, o3, e4, e5, o5, e6, hL8⟩ := HL7.out.L.publish (by omega) (by omega) (by omega) mo hm0.1 (by omega)
          have hver := HL7.out.L.v
          have f5 : wrap64 (r.V + 1) = r.V + 1 := by unfold wrap64; omega
          have f6 : wrap64 (r.V + 1 + mo) = r.V + 1 + mo := by unfold wrap64; omega
          have HPUB := Lib.hid (publishY_calls HL7.out.Am HL7.out.L.Y.ok (by rw [hver]; omega) (by rw [hver]; omega) hm0.1 (by omega) e1 e2 e3 o3 e4 e5 o5 e6 A B ts.length ca ss.length cc)
          have HL8 := Lib.hid hL8
          have HVK := Lib.hid (And.intro hvk (And.intro hm0 hk150))
          clear h7 hmo hm0 hvk hvb hkk e1 e2 e3 o3 e4 e5 o5 e6 hver hL8 hk150
          go_wp2_with fail
          refine HPUB.out.mono ?_
          clear HPUB
          rintro e W8 ⟨rfl, hA8, hF8⟩
          have kg8 := hF8.blk HL7.out.Am HL7.out.kg (by decide) (by decide)
          have kx8 := hF8.blk HL7.out.Am HKX.out (by decide) (by decide)
          have hX8 := HL7.out.X.fr HL7.out.Am hF8
          obtain ⟨a1, a2, vs1, vp1, ex, h3, h4⟩ := hX8
          obtain ⟨W9, hW9⟩ : ∃ q : World, q = W8.setCell ⟨gb, 0, none⟩ (.int .i64 (r.V + 1 + mo)) := ⟨_, rfl⟩
          have hO9 : Only W8 W9 gb := hW9 ▸ Only.set _ _ _
          have kg9 : W9.heap[gb]? = some (.cells #[.int .i64 (r.V + 1 + mo), .slice Av1 nv1 cv1, .slice Ap1 np1 cp1] 97 (0, 0)) := hW9 ▸ blk_put kg8 0 _ rfl
          have NEXT := Lib.hid (HL7.out.next HBM.out hF8 hA8 (r' := ⟨r.V + 1 + mo, r.S, r.P⟩) ((by have := HL8.out.more.gmore (g' := 2 * ((k + 1 : Nat) : Int)) (by omega); rw [show ((k : Int) + 1) = ((k + 1 : Nat) : Int) by omega] at this; exact this)) (by have := HVK.out; simp only; omega) (by
            injection ex with ex
            have e' : Value.slice Av1 nv1 cv1 = vs1 ∧ Value.slice Ap1 np1 cp1 = vp1 := by simpa using ex
            rw [e'.1, e'.2]
            exact ⟨a1, a2, _, _, rfl, h3, h4⟩) (Or.inl rfl) hO9 HGB.out kg9)
          obtain ⟨p0, p1, p2⟩ := box3s kg8
          have z0 := blk_frozen kg8 0
          obtain ⟨x0', x1', x2', x3', x4'⟩ := box5a kx8
          have HW9 := Lib.hid hW9
          clear hA8 hF8 kg8 kx8 a1 a2 ex h3 h4 hW9 hO9 kg9 y0 y1 y2 y3 q0 q1 q2 x0 x1 x2 x3 x4
          go_wp2_with fail
          rw [← HW9.out]
          go_roundw
          case rel => exact ⟨k + 1, N6, gg, _, ⟨r.V + 1 + mo, r.S, r.P⟩, _, _, ids, by omega, by go_num, NEXT.out⟩
          case measure => simp [intOf]; omega
        · have s7 : (xd % 7 == 0) = false := by simp [h7]
          have HDO := Lib.hid (does15_calls HL7.out.Am HL7.out.R HL7.out.L HL7.out.X (by have := HAS.out.2.2.2; omega) xn hn9 xd xp xn xm false d0 h7)
          have HVK := Lib.hid HL7.out.vk
          clear h7
          go_wp2_with fail
          refine HDO.out.mono ?_
          clear HDO
          rintro e W8 ⟨m8, r8, vs8, vp8, told, rfl, hA8, hL8, hV8, hX8, ht8, how8, hF8⟩
          obtain ⟨⟨Av8, nv8, cv8, evs⟩, ⟨Ap8, np8, cp8, evp⟩⟩ := regv_kind hX8
          subst evs evp
          obtain ⟨W9, hW9⟩ : ∃ q : World, q = W8.alloc (.cells #[.int .i64 r8.V, .slice Av8 nv8 cv8, .slice Ap8 np8 cp8] 97) := ⟨_, rfl⟩
          have hb9 : Below W8.heap.size W8 W9 := hW9 ▸ below_alloc (Below.refl _ _) _
          obtain ⟨nb, hnb⟩ : ∃ q, W8.heap.size = q := ⟨_, rfl⟩
          have kn9 : W9.heap[nb]? = some (.cells #[.int .i64 r8.V, .slice Av8 nv8 cv8, .slice Ap8 np8 cp8] 97 (0, 0)) := hnb ▸ hW9 ▸ blk_new _ _
          have kg9 := blk_below (hF8.blk HL7.out.Am HL7.out.kg (by decide) (by decide)) hb9
          obtain ⟨W10, hW10⟩ : ∃ q : World, q = set3r W9 gb (.int .i64 r8.V) (.slice Av8 nv8 cv8) (.slice Ap8 np8 cp8) := ⟨_, rfl⟩
          have hO10 : Only W9 W10 gb := hW10 ▸ only3r _ _ _ _ _
          have kg10 : W10.heap[gb]? = some (.cells #[.int .i64 r8.V, .slice Av8 nv8 cv8, .slice Ap8 np8 cp8] 97 (0, 0)) := hW10 ▸ blk3r kg9 _ _ _
          have hL10 := HL7.out.next HBM.out (hF8.below hb9) (hA8.below hb9) (r' := r8) (by have := hL8.gmore (g' := 2 * ((k + 1 : Nat) : Int)) (by omega); rw [show ((k : Int) + 1) = ((k + 1 : Nat) : Int) by omega] at this; exact this) (by have := HVK.out; rw [hV8]; omega) (hX8.below hb9) how8 hO10 HGB.out kg10
          have HL10 := Lib.hid hL10
          obtain ⟨p0, p1, p2⟩ := box3s kn9
          obtain ⟨o0, o1, o2⟩ := box3s kg9
          have z0 := blk_frozen kg9 0
          have z1 := blk_frozen kg9 1
          have z2 := blk_frozen kg9 2
          have HW9 := Lib.hid hW9
          have HW10 := Lib.hid hW10
          have HNB := Lib.hid hnb
          have HT8 := Lib.hid ht8
          unfold set3r at HW10
          clear hA8 hL8 hV8 hX8 ht8 how8 hF8 hW9 hb9 hnb kn9 kg9 hW10 hO10 kg10 hL10 y0 y1 y2 y3 q0 q1 q2 x0 x1 x2 x3 x4
          go_upto_region 26 with fail
          rw [← HW9.out, HNB.out]
          clear HW9 HNB
          go_upto_region 27 with fail
          rw [← HW10.out]
          clear HW10 p0 p1 p2 o0 o1 o2 z0 z1 z2
          by_cases ht : 0 ≤ told
          · have gt : decide (0 ≤ told) = true := decide_eq_true ht
            have hs10 := HL10.out.Bw.size
            have hil := HL7.out.il
            go_wp2_with (at_builtin; refine append_I (w0 := w) rfl _ _ rfl w.heap.size _ ids told HL10.out.O rfl rfl HL10.out.Bw hs10 (by have := HAS.out.2.2.2; omega) ?_)
            intro v1 w11 hO11 hB11 hg11 hat11
            have NEXT := Lib.hid (HL10.out.add told HT8.out (by omega) hO11 hB11 hg11 hat11)
            clear hO11 hB11 hg11 hat11 HL10
            go_wp2_with fail
            go_roundw
            case rel => exact ⟨k + 1, m8, hd, d, r8, _, _, ids ++ [told], by omega, by go_num, NEXT.out⟩
            case measure => simp [intOf]; omega
          · have gt : decide (0 ≤ told) = false := decide_eq_false ht
            go_wp2_with fail
            go_roundw
            case rel => exact ⟨k + 1, m8, hd, d, r8, _, _, ids, by omega, by go_num, HL10.out⟩
            case measure => simp [intOf]; omega
      · subst c5
        obtain ⟨y0, y1, y2, y3⟩ := box4 HL7.out.ky
        obtain ⟨q0, q1, q2⟩ := box3s HL7.out.kg
        by_cases h7 : xd % 7 = 0
        · have s7 : (xd % 7 == 0) = true := by simp [h7]
          obtain ⟨mo, hmo⟩ : ∃ q, xd / 7 = q := ⟨_, rfl⟩
          have hm0 : 0 ≤ mo ∧ mo ≤ 36 := by omega
          have f1 : wrap64 xd = xd := by unfold wrap64; omega
          have f2 : xd.tdiv 7 = mo := by rw [Int.tdiv_eq_ediv_of_nonneg d0]; exact hmo
          have f3 : (wrap64 xd).tdiv 7 = mo := by rw [f1]; exact f2
          have f4 : wrap64 mo = mo := by unfold wrap64; omega
          have hvk := HL7.out.vk
          have hvb := HL7.out.L.vb
          have hk150 : k < 150 := by have := HAS.out.2.2.2; omega
          have hkk : 3 + a + s ≤ 131 := by have := HAS.out; omega
          obtain ⟨N1, N2, N3, N4, N5, N6, gg, nc, e1, e2, e3, o3, e4, e5, o5, e6, hL8⟩ := HL7.out.L.publish (by omega) (by omega) (by omega) mo hm0.1 (by omega)
          have hver := HL7.out.L.v
          have f5 : wrap64 (r.V + 1) = r.V + 1 := by unfold wrap64; omega
          have f6 : wrap64 (r.V + 1 + mo) = r.V + 1 + mo := by unfold wrap64; omega
          have HPUB := Lib.hid (publishY_calls HL7.out.Am HL7.out.L.Y.ok (by rw [hver]; omega) (by rw [hver]; omega) hm0.1 (by omega) e1 e2 e3 o3 e4 e5 o5 e6 A B ts.length ca ss.length cc)
          have HL8 := Lib.hid hL8
          have HVK := Lib.hid (And.intro hvk (And.intro hm0 hk150))
          clear h7 hmo hm0 hvk hvb hkk e1 e2 e3 o3 e4 e5 o5 e6 hver hL8 hk150
          go_wp2_with fail
          refine HPUB.out.mono ?_
          clear HPUB
          rintro e W8 ⟨rfl, hA8, hF8⟩
          have kg8 := hF8.blk HL7.out.Am HL7.out.kg (by decide) (by decide)
          have kx8 := hF8.blk HL7.out.Am HKX.out (by decide) (by decide)
          have hX8 := HL7.out.X.fr HL7.out.Am hF8
          obtain ⟨a1, a2, vs1, vp1, ex, h3, h4⟩ := hX8
          obtain ⟨W9, hW9⟩ : ∃ q : World, q = W8.setCell ⟨gb, 0, none⟩ (.int .i64 (r.V + 1 + mo)) := ⟨_, rfl⟩
          have hO9 : Only W8 W9 gb := hW9 ▸ Only.set _ _ _
          have kg9 : W9.heap[gb]? = some (.cells #[.int .i64 (r.V + 1 + mo), .slice Av1 nv1 cv1, .slice Ap1 np1 cp1] 97 (0, 0)) := hW9 ▸ blk_put kg8 0 _ rfl
          have NEXT := Lib.hid (HL7.out.next HBM.out hF8 hA8 (r' := ⟨r.V + 1 + mo, r.S, r.P⟩) ((by have := HL8.out.more.gmore (g' := 2 * ((k + 1 : Nat) : Int)) (by omega); rw [show ((k : Int) + 1) = ((k + 1 : Nat) : Int) by omega] at this; exact this)) (by have := HVK.out; simp only; omega) (by
            injection ex with ex
            have e' : Value.slice Av1 nv1 cv1 = vs1 ∧ Value.slice Ap1 np1 cp1 = vp1 := by simpa using ex
            rw [e'.1, e'.2]
            exact ⟨a1, a2, _, _, rfl, h3, h4⟩) (Or.inl rfl) hO9 HGB.out kg9)
          obtain ⟨p0, p1, p2⟩ := box3s kg8
          have z0 := blk_frozen kg8 0
          obtain ⟨x0', x1', x2', x3', x4'⟩ := box5a kx8
          have HW9 := Lib.hid hW9
          clear hA8 hF8 kg8 kx8 a1 a2 ex h3 h4 hW9 hO9 kg9 y0 y1 y2 y3 q0 q1 q2 x0 x1 x2 x3 x4
          go_wp2_with fail
          rw [← HW9.out]
          go_roundw
          case rel => exact ⟨k + 1, N6, gg, _, ⟨r.V + 1 + mo, r.S, r.P⟩, _, _, ids, by omega, by go_num, NEXT.out⟩
          case measure => simp [intOf]; omega
        · have s7 : (xd % 7 == 0) = false := by simp [h7]
          have HDO := Lib.hid (does15_calls HL7.out.Am HL7.out.R HL7.out.L HL7.out.X (by have := HAS.out.2.2.2; omega) xn hn9 xd xp xn xm false d0 h7)
          have HVK := Lib.hid HL7.out.vk
          clear h7
          go_wp2_with fail
          refine HDO.out.mono ?_
          clear HDO
          rintro e W8 ⟨m8, r8, vs8, vp8, told, rfl, hA8, hL8, hV8, hX8, ht8, how8, hF8⟩
          obtain ⟨⟨Av8, nv8, cv8, evs⟩, ⟨Ap8, np8, cp8, evp⟩⟩ := regv_kind hX8
          subst evs evp
          obtain ⟨W9, hW9⟩ : ∃ q : World, q = W8.alloc (.cells #[.int .i64 r8.V, .slice Av8 nv8 cv8, .slice Ap8 np8 cp8] 97) := ⟨_, rfl⟩
          have hb9 : Below W8.heap.size W8 W9 := hW9 ▸ below_alloc (Below.refl _ _) _
          obtain ⟨nb, hnb⟩ : ∃ q, W8.heap.size = q := ⟨_, rfl⟩
          have kn9 : W9.heap[nb]? = some (.cells #[.int .i64 r8.V, .slice Av8 nv8 cv8, .slice Ap8 np8 cp8] 97 (0, 0)) := hnb ▸ hW9 ▸ blk_new _ _
          have kg9 := blk_below (hF8.blk HL7.out.Am HL7.out.kg (by decide) (by decide)) hb9
          obtain ⟨W10, hW10⟩ : ∃ q : World, q = set3r W9 gb (.int .i64 r8.V) (.slice Av8 nv8 cv8) (.slice Ap8 np8 cp8) := ⟨_, rfl⟩
          have hO10 : Only W9 W10 gb := hW10 ▸ only3r _ _ _ _ _
          have kg10 : W10.heap[gb]? = some (.cells #[.int .i64 r8.V, .slice Av8 nv8 cv8, .slice Ap8 np8 cp8] 97 (0, 0)) := hW10 ▸ blk3r kg9 _ _ _
          have hL10 := HL7.out.next HBM.out (hF8.below hb9) (hA8.below hb9) (r' := r8) (by have := hL8.gmore (g' := 2 * ((k + 1 : Nat) : Int)) (by omega); rw [show ((k : Int) + 1) = ((k + 1 : Nat) : Int) by omega] at this; exact this) (by have := HVK.out; rw [hV8]; omega) (hX8.below hb9) how8 hO10 HGB.out kg10
          have HL10 := Lib.hid hL10
          obtain ⟨p0, p1, p2⟩ := box3s kn9
          obtain ⟨o0, o1, o2⟩ := box3s kg9
          have z0 := blk_frozen kg9 0
          have z1 := blk_frozen kg9 1
          have z2 := blk_frozen kg9 2
          have HW9 := Lib.hid hW9
          have HW10 := Lib.hid hW10
          have HNB := Lib.hid hnb
          have HT8 := Lib.hid ht8
          unfold set3r at HW10
          clear hA8 hL8 hV8 hX8 ht8 how8 hF8 hW9 hb9 hnb kn9 kg9 hW10 hO10 kg10 hL10 y0 y1 y2 y3 q0 q1 q2 x0 x1 x2 x3 x4
          go_upto_region 26 with fail
          rw [← HW9.out, HNB.out]
          clear HW9 HNB
          go_upto_region 27 with fail
          rw [← HW10.out]
          clear HW10 p0 p1 p2 o0 o1 o2 z0 z1 z2
          by_cases ht : 0 ≤ told
          · have gt : decide (0 ≤ told) = true := decide_eq_true ht
            have hs10 := HL10.out.Bw.size
            have hil := HL7.out.il
            go_wp2_with (at_builtin; refine append_I (w0 := w) rfl _ _ rfl w.heap.size _ ids told HL10.out.O rfl rfl HL10.out.Bw hs10 (by have := HAS.out.2.2.2; omega) ?_)
            intro v1 w11 hO11 hB11 hg11 hat11
            have NEXT := Lib.hid (HL10.out.add told HT8.out (by omega) hO11 hB11 hg11 hat11)
            clear hO11 hB11 hg11 hat11 HL10
            go_wp2_with fail
            go_roundw
            case rel => exact ⟨k + 1, m8, hd, d, r8, _, _, ids ++ [told], by omega, by go_num, NEXT.out⟩
            case measure => simp [intOf]; omega
          · have gt : decide (0 ≤ told) = false := decide_eq_false ht
            go_wp2_with fail
            go_roundw
            case rel => exact ⟨k + 1, m8, hd, d, r8, _, _, ids, by omega, by go_num, HL10.out⟩
            case measure => simp [intOf]; omega
      · subst c5
        have c8 : decide (0 < ids.length) = true := decide_eq_true c6
        have c9 : decide (0 ≤ xn) = true := decide_eq_true c7
        obtain ⟨qi, hqi⟩ : ∃ q : Nat, xn % (ids.length : Int) = (q : Int) := ⟨(xn % (ids.length : Int)).toNat, by rw [Int.toNat_of_nonneg (Int.emod_nonneg _ (by omega))]⟩
        have hqt : Int.tmod xn (ids.length : Int) = (qi : Int) := by rw [Int.tmod_eq_emod_of_nonneg c7]; exact hqi
        have hq2 : qi < ids.length := by
          have := Int.emod_lt_of_pos xn (b := (ids.length : Int)) (by omega)
          omega
        obtain ⟨gu, egu, hcu⟩ := HL7.out.O.cell qi hq2
        have hq9 := HL7.out.ib _ (getD_mem hq2)
        obtain ⟨idq, hidq⟩ : ∃ q, ids.getD qi 0 = q := ⟨_, rfl⟩
        rw [hidq] at hcu hq9
        subst egu
        clear hidq
        obtain ⟨y0, y1, y2, y3⟩ := box4 HL7.out.ky
        obtain ⟨q0, q1, q2⟩ := box3s HL7.out.kg
        by_cases h7 : xd % 7 = 0
        · have s7 : (xd % 7 == 0) = true := by simp [h7]
          obtain ⟨mo, hmo⟩ : ∃ q, xd / 7 = q := ⟨_, rfl⟩
          have hm0 : 0 ≤ mo ∧ mo ≤ 36 := by omega
          have f1 : wrap64 xd = xd := by unfold wrap64; omega
          have f2 : xd.tdiv 7 = mo := by rw [Int.tdiv_eq_ediv_of_nonneg d0]; exact hmo
          have f3 : (wrap64 xd).tdiv 7 = mo := by rw [f1]; exact f2
          have f4 : wrap64 mo = mo := by unfold wrap64; omega
          have hvk := HL7.out.vk
          have hvb := HL7.out.L.vb
          have hk150 : k < 150 := by have := HAS.out.2.2.2; omega
          have hkk : 3 + a + s ≤ 131 := by have := HAS.out; omega
          obtain ⟨N1, N2, N3, N4, N5, N6, gg, nc, e1, e2, e3, o3, e4, e5, o5, e6, hL8⟩ := HL7.out.L.publish (by omega) (by omega) (by omega) mo hm0.1 (by omega)
          have hver := HL7.out.L.v
          have f5 : wrap64 (r.V + 1) = r.V + 1 := by unfold wrap64; omega
          have f6 : wrap64 (r.V + 1 + mo) = r.V + 1 + mo := by unfold wrap64; omega
          have HPUB := Lib.hid (publishY_calls HL7.out.Am HL7.out.L.Y.ok (by rw [hver]; omega) (by rw [hver]; omega) hm0.1 (by omega) e1 e2 e3 o3 e4 e5 o5 e6 A B ts.length ca ss.length cc)
          have HL8 := Lib.hid hL8
          have HVK := Lib.hid (And.intro hvk (And.intro hm0 hk150))
          clear h7 hmo hm0 hvk hvb hkk e1 e2 e3 o3 e4 e5 o5 e6 hver hL8 hk150
          go_wp2_with fail
          refine HPUB.out.mono ?_
          clear HPUB
          rintro e W8 ⟨rfl, hA8, hF8⟩
          have kg8 := hF8.blk HL7.out.Am HL7.out.kg (by decide) (by decide)
          have kx8 := hF8.blk HL7.out.Am HKX.out (by decide) (by decide)
          have hX8 := HL7.out.X.fr HL7.out.Am hF8
          obtain ⟨a1, a2, vs1, vp1, ex, h3, h4⟩ := hX8
          obtain ⟨W9, hW9⟩ : ∃ q : World, q = W8.setCell ⟨gb, 0, none⟩ (.int .i64 (r.V + 1 + mo)) := ⟨_, rfl⟩
          have hO9 : Only W8 W9 gb := hW9 ▸ Only.set _ _ _
          have kg9 : W9.heap[gb]? = some (.cells #[.int .i64 (r.V + 1 + mo), .slice Av1 nv1 cv1, .slice Ap1 np1 cp1] 97 (0, 0)) := hW9 ▸ blk_put kg8 0 _ rfl
          have NEXT := Lib.hid (HL7.out.next HBM.out hF8 hA8 (r' := ⟨r.V + 1 + mo, r.S, r.P⟩) ((by have := HL8.out.more.gmore (g' := 2 * ((k + 1 : Nat) : Int)) (by omega); rw [show ((k : Int) + 1) = ((k + 1 : Nat) : Int) by omega] at this; exact this)) (by have := HVK.out; simp only; omega) (by
            injection ex with ex
            have e' : Value.slice Av1 nv1 cv1 = vs1 ∧ Value.slice Ap1 np1 cp1 = vp1 := by simpa using ex
            rw [e'.1, e'.2]
            exact ⟨a1, a2, _, _, rfl, h3, h4⟩) (Or.inl rfl) hO9 HGB.out kg9)
          obtain ⟨p0, p1, p2⟩ := box3s kg8
          have z0 := blk_frozen kg8 0
          obtain ⟨x0', x1', x2', x3', x4'⟩ := box5a kx8
          have HW9 := Lib.hid hW9
          clear hA8 hF8 kg8 kx8 a1 a2 ex h3 h4 hW9 hO9 kg9 y0 y1 y2 y3 q0 q1 q2 x0 x1 x2 x3 x4 hcu
          go_wp2_with fail
          rw [← HW9.out]
          go_roundw
          case rel => exact ⟨k + 1, N6, gg, _, ⟨r.V + 1 + mo, r.S, r.P⟩, _, _, ids, by omega, by go_num, NEXT.out⟩
          case measure => simp [intOf]; omega
        · have s7 : (xd % 7 == 0) = false := by simp [h7]
          have HDO := Lib.hid (does15_calls HL7.out.Am HL7.out.R HL7.out.L HL7.out.X (by have := HAS.out.2.2.2; omega) idq hq9 xd xp xn xm false d0 h7)
          have HVK := Lib.hid HL7.out.vk
          clear h7
          go_wp2_with fail
          refine HDO.out.mono ?_
          clear HDO
          rintro e W8 ⟨m8, r8, vs8, vp8, told, rfl, hA8, hL8, hV8, hX8, ht8, how8, hF8⟩
          obtain ⟨⟨Av8, nv8, cv8, evs⟩, ⟨Ap8, np8, cp8, evp⟩⟩ := regv_kind hX8
          subst evs evp
          obtain ⟨W9, hW9⟩ : ∃ q : World, q = W8.alloc (.cells #[.int .i64 r8.V, .slice Av8 nv8 cv8, .slice Ap8 np8 cp8] 97) := ⟨_, rfl⟩
          have hb9 : Below W8.heap.size W8 W9 := hW9 ▸ below_alloc (Below.refl _ _) _
          obtain ⟨nb, hnb⟩ : ∃ q, W8.heap.size = q := ⟨_, rfl⟩
          have kn9 : W9.heap[nb]? = some (.cells #[.int .i64 r8.V, .slice Av8 nv8 cv8, .slice Ap8 np8 cp8] 97 (0, 0)) := hnb ▸ hW9 ▸ blk_new _ _
          have kg9 := blk_below (hF8.blk HL7.out.Am HL7.out.kg (by decide) (by decide)) hb9
          obtain ⟨W10, hW10⟩ : ∃ q : World, q = set3r W9 gb (.int .i64 r8.V) (.slice Av8 nv8 cv8) (.slice Ap8 np8 cp8) := ⟨_, rfl⟩
          have hO10 : Only W9 W10 gb := hW10 ▸ only3r _ _ _ _ _
          have kg10 : W10.heap[gb]? = some (.cells #[.int .i64 r8.V, .slice Av8 nv8 cv8, .slice Ap8 np8 cp8] 97 (0, 0)) := hW10 ▸ blk3r kg9 _ _ _
          have hL10 := HL7.out.next HBM.out (hF8.below hb9) (hA8.below hb9) (r' := r8) (by have := hL8.gmore (g' := 2 * ((k + 1 : Nat) : Int)) (by omega); rw [show ((k : Int) + 1) = ((k + 1 : Nat) : Int) by omega] at this; exact this) (by have := HVK.out; rw [hV8]; omega) (hX8.below hb9) how8 hO10 HGB.out kg10
          have HL10 := Lib.hid hL10
          obtain ⟨p0, p1, p2⟩ := box3s kn9
          obtain ⟨o0, o1, o2⟩ := box3s kg9
          have z0 := blk_frozen kg9 0
          have z1 := blk_frozen kg9 1
          have z2 := blk_frozen kg9 2
          have HW9 := Lib.hid hW9
          have HW10 := Lib.hid hW10
          have HNB := Lib.hid hnb
          have HT8 := Lib.hid ht8
          unfold set3r at HW10
          clear hA8 hL8 hV8 hX8 ht8 how8 hF8 hW9 hb9 hnb kn9 kg9 hW10 hO10 kg10 hL10 y0 y1 y2 y3 q0 q1 q2 x0 x1 x2 x3 x4 hcu
          go_upto_region 26 with fail
          rw [← HW9.out, HNB.out]
          clear HW9 HNB
          go_upto_region 27 with fail
          rw [← HW10.out]
          clear HW10 p0 p1 p2 o0 o1 o2 z0 z1 z2
          by_cases ht : 0 ≤ told
          · have gt : decide (0 ≤ told) = true := decide_eq_true ht
            have hs10 := HL10.out.Bw.size
            have hil := HL7.out.il
            go_wp2_with (at_builtin; refine append_I (w0 := w) rfl _ _ rfl w.heap.size _ ids told HL10.out.O rfl rfl HL10.out.Bw hs10 (by have := HAS.out.2.2.2; omega) ?_)
            intro v1 w11 hO11 hB11 hg11 hat11
            have NEXT := Lib.hid (HL10.out.add told HT8.out (by omega) hO11 hB11 hg11 hat11)
            clear hO11 hB11 hg11 hat11 HL10
            go_wp2_with fail
            go_roundw
            case rel => exact ⟨k + 1, m8, hd, d, r8, _, _, ids ++ [told], by omega, by go_num, NEXT.out⟩
            case measure => simp [intOf]; omega
          · have gt : decide (0 ≤ told) = false := decide_eq_false ht
            go_wp2_with fail
            go_roundw
            case rel => exact ⟨k + 1, m8, hd, d, r8, _, _, ids, by omega, by go_num, HL10.out⟩
            case measure => simp [intOf]; omega
    · have gl : decide ((k : Int) < (l.length : Int)) = false := decide_eq_false (by omega)
      have HB := Lib.hid hLp.Bw
      clear hLp
      go_wp2_with fail
      go_ret
      exact ⟨rfl, HB.out⟩
theorem RegPlays_walk (a s : Int) (Al : Option Addr) (cap : Nat) (l : List Act) (w : World) (hr0 : actKd.C w Al l.length l) (hok : ∀ x ∈ l, x.ok) :
    Calls Try.prog 10 #[.int .i64 a, .int .i64 s, .slice Al l.length cap] w fun e w' => e = .returned (.bool true) ∧ Below w.heap.size w w' := by
  by_cases h : l.length ≤ 150
  · by_cases hab : a < 1 ∨ 64 < a ∨ s < 0 ∨ 64 < s
    · exact RegPlays_bad a s Al cap l h hab w
    · obtain ⟨n, rfl⟩ : ∃ n : Nat, a = n := ⟨a.toNat, by omega⟩
      obtain ⟨k, rfl⟩ : ∃ k : Nat, s = k := ⟨s.toNat, by omega⟩
      exact RegPlays_main n k (by omega) (by omega) (by omega) Al cap l h w hr0 hok
  · exact RegPlays_long a s Al cap l (by omega) w
end
end Go.Proofs.Ytahnmklofgnagaa.Mem
