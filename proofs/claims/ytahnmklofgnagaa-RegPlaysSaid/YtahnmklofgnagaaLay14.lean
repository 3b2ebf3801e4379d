/- step.Do; rundlelaw14.Lay: memory, a top, and cells of words. -/
import Derived.Test.YtahnmklofgnagaaDesc3
import Derived.Test.YtahnmklofgnagaaOwn
namespace Go.Proofs.Ytahnmklofgnagaa.Mem
open Go.RowKit Go.Proofs.YtahnmklofgnagaaW.PrintWords Go.Proofs.YtahnmklofgnagaaW.PrintLast Go.Proofs.Ytahnmklofgnagaa.Tags
set_option linter.unusedVariables false
set_option linter.unusedSimpArgs false
section
variable {w0 w w' : World} {pb mb cb : Nat} {m m' : M}
theorem Fr.grown {base : Nat} {v : Value} {xs : List Int} (hF : Fr w0 w mb cb) (h : OwnI w base v xs) (hb : w0.heap.size ≤ base) (hg : w.grownBy w' v.ownBlock) : Fr w0 w' mb cb :=
  ⟨hg.os.trans hF.os, hg.tape.trans hF.tape, hg.output.trans hF.output, Nat.le_trans hF.size hg.size, fun k hk h1 h2 => (hg.block k (Nat.lt_of_lt_of_le hk hF.size) (by intro e; have := h.base_ hb k e.symm; omega)).trans (hF.block k hk h1 h2)⟩
theorem St.grown {base : Nat} {v : Value} {xs : List Int} (h : St w0 w pb mb cb m) (hU : OwnI w base v xs) (hb : w0.heap.size ≤ base) (hg : w.grownBy w' v.ownBlock) : St w0 w' pb mb cb m :=
  ⟨h.A.grown hU hg, (hg.block pb h.lt_pb (hU.ne h.P (by decide))).trans h.P, h.F.grown hU hb hg⟩
theorem OwnI.only1 {base b : Nat} {v : Value} {xs : List Int} (h : OwnI w base v xs) (k : Only w w' b) {t : TypeId} {cs : Array Value} (hg : w.heap[b]? = some (.cells cs t (0, 0))) (ht : t ≠ 3) : OwnI w' base v xs := h.move fun i hi => k.block i (by rintro rfl; exact h.ne hg ht hi.symm)
abbrev port0 (mb : Nat) : Obj := .cells #[ptr mb, .slice none 0 0, .int .i64 0, .int .i64 (-1), .int .i64 0] 111
theorem do1_calls {K : Nat} {c : Value} {v : Value} {Q : World → Prop} (hK : ∀ args W, (callFunc K args).run Try.prog W = .ok (.enter K args) W) (hd : Calls Try.prog K #[ptr w.heap.size, c] (w.alloc (port0 mb)) fun e w' => e = .returned v ∧ Q w') :
    Calls Try.prog 15 #[ptr mb, .func (Fn.func K) #[] #[c]] w fun e w' => e = .returned v ∧ Q w' := by
  have hk := hK #[ptr w.heap.size, c]
  have HD := Lib.hid hd
  clear hK hd
  go_enter Try.func15, Try.ntmps15
  go_wp2_with fail
  refine HD.out.mono ?_
  rintro e W ⟨rfl, hq⟩
  have HQ := Lib.hid hq
  clear hq
  go_wp2_with fail
  go_ret
  exact ⟨rfl, HQ.out⟩
theorem do3_calls {K : Nat} {c1 c2 c3 : Value} {v : Value} {Q : World → Prop} (hK : ∀ args W, (callFunc K args).run Try.prog W = .ok (.enter K args) W) (hd : Calls Try.prog K #[ptr w.heap.size, c1, c2, c3] (w.alloc (port0 mb)) fun e w' => e = .returned v ∧ Q w') :
    Calls Try.prog 15 #[ptr mb, .func (Fn.func K) #[] #[c1, c2, c3]] w fun e w' => e = .returned v ∧ Q w' := by
  have hk := hK #[ptr w.heap.size, c1, c2, c3]
  have HD := Lib.hid hd
  clear hK hd
  go_enter Try.func15, Try.ntmps15
  go_wp2_with fail
  refine HD.out.mono ?_
  rintro e W ⟨rfl, hq⟩
  have HQ := Lib.hid hq
  clear hq
  go_wp2_with fail
  go_ret
  exact ⟨rfl, HQ.out⟩
def M.fill : M → Nat → Nat → List Int → Option (M × List Int)
  | m, _, 0, ts => some (m, ts)
  | m, i, n + 1, ts => if (m.alloc (number i)).2.2 = 0 then M.fill (m.alloc (number i)).1 (i + 1) n (ts ++ [(m.alloc (number i)).2.1]) else none
theorem box3 {g : Nat} {t : TypeId} {a b c : Value} {w : World} (h : w.heap[g]? = some (.cells #[a, b, c] t (0, 0))) : w.cell? ⟨g, 0, none⟩ = some a ∧ w.cell? ⟨g, 1, none⟩ = some b ∧ w.cell? ⟨g, 2, none⟩ = some c := ⟨(blk_cell h 0).trans rfl, (blk_cell h 1).trans rfl, (blk_cell h 2).trans rfl⟩
set_option maxHeartbeats 3200000 in
set_option maxRecDepth 100000 in
theorem Lay_fn (h : St w0 w pb mb cb m) {by_ bo bn : Nat} {n : Nat} {M1 M2 M3 : M} {y t : Int} {ts : List Int} (hl : m.laid 1 D.z = (M1, y, 0)) (ha : M1.alloc (number y) = (M2, t, 0)) (hf : M2.fill 0 n [] = some (M3, ts)) (hn : n ≤ 1000)
    (k1 : w.heap[by_]? = some (.cells #[ptr mb, .int .i64 0, .slice none 0 0] 27 (0, 0))) (k2 : w.heap[bo]? = some (.cells #[.bool true] 4 (0, 0))) (k3 : w.heap[bn]? = some (.cells #[.int .i64 n] 3 (0, 0)))
    (b1 : w0.heap.size ≤ by_) (b2 : w0.heap.size ≤ bo) :
    Calls Try.prog 70 #[ptr pb, .pointer (some ⟨by_, 0, none⟩), .pointer (some ⟨bo, 0, none⟩), .pointer (some ⟨bn, 0, none⟩)] w fun e w' => e = .returned .nilIface ∧ St w0 w' pb mb cb M3 ∧ ∃ v, w'.heap[by_]? = some (.cells #[ptr mb, .int .i64 t, v] 27 (0, 0)) ∧ OwnI w' w.heap.size v ts ∧ w'.heap[bo]? = some (.cells #[.bool true] 4 (0, 0)) := by
  have hw0 : w0.heap.size ≤ w.heap.size := h.F.size
  have hbn : bn < w.heap.size := blk_lt k3
  have n12 : by_ ≠ bo := by rintro rfl; exact absurd (k1.symm.trans k2) (by intro e; injection e with e; injection e with _ e; exact absurd e (by decide))
  go_enter Try.func70, Try.ntmps70
  have HF := Lib.hid hf
  clear hf
  go_wp2_with fail
  refine (init_ok h hl ha).mono ?_
  clear hl ha
  rintro e W1 ⟨rfl, h1, hF⟩
  have k1' := hF.blk h.A k1 (by decide) (by decide)
  have k2' := hF.blk h.A k2 (by decide) (by decide)
  have k3' := hF.blk h.A k3 (by decide) (by decide)
  have hsz : w.heap.size ≤ W1.heap.size := hF.size
  clear hF k1 k2 k3 h
  -- the two stores
  have ho1 := Only.set W1 ⟨by_, 1, none⟩ (.int .i64 t)
  have c1 := blk_put k1' 1 (.int .i64 t) rfl
  have c2 := (ho1.block bo (Ne.symm n12)).trans k2'
  have ho2 := Only.set (W1.setCell ⟨by_, 1, none⟩ (.int .i64 t)) ⟨bo, 0, none⟩ (.bool true)
  have s1 := h1.only ho1 k1' (by decide) (by decide) (by decide) b1
  have s2 := s1.only ho2 c2 (by decide) (by decide) (by decide) b2
  obtain ⟨W2, hW2⟩ : ∃ W2 : World, W2 = (W1.setCell ⟨by_, 1, none⟩ (.int .i64 t)).setCell ⟨bo, 0, none⟩ (.bool true) := ⟨_, rfl⟩
  have hY : W2.heap[by_]? = some (.cells #[ptr mb, .int .i64 t, .slice none 0 0] 27 (0, 0)) := hW2 ▸ (ho2.block by_ n12).trans c1
  have hO : W2.heap[bo]? = some (.cells #[.bool true] 4 (0, 0)) := hW2 ▸ blk_put c2 0 (.bool true) rfl
  have n13 : bn ≠ by_ := by rintro rfl; exact absurd (k3'.symm.trans k1') (by intro e; injection e with e; injection e with _ e; exact absurd e (by decide))
  have n23 : bn ≠ bo := by rintro rfl; exact absurd (k3'.symm.trans k2') (by intro e; injection e with e; injection e with _ e; exact absurd e (by decide))
  have hN : W2.heap[bn]? = some (.cells #[.int .i64 n] 3 (0, 0)) := hW2 ▸ ((ho2.block bn n23).trans ((ho1.block bn n13).trans k3'))
  have h2 : St w0 W2 pb mb cb M2 := hW2 ▸ s2
  have hs2 : w.heap.size ≤ W2.heap.size := by rw [hW2]; simp only [World.setCell, Array.size_modify]; exact hsz
  have HW2 := Lib.hid hW2
  obtain ⟨q0, q1, q2⟩ := box3 k1'
  have q3 := box1 k2'
  have z1 := blk_frozen k1' 1
  have z2 := blk_frozen k2' 0
  clear hW2 s1 s2 c1 c2 ho1 ho2 k1' k2' k3' h1
  have START := Lib.hid (show ∃ (k : Nat) (m : M) (v : Value) (us : List Int), k ≤ n ∧ Value.int .i64 0 = .int .i64 k ∧ us.length = k ∧ m.fill k (n - k) us = some (M3, ts) ∧ St w0 W2 pb mb cb m ∧ W2.heap[by_]? = some (.cells #[ptr mb, .int .i64 t, v] 27 (0, 0)) ∧ OwnI W2 w.heap.size v us ∧ W2.heap[bo]? = some (.cells #[.bool true] 4 (0, 0)) ∧ W2.heap[bn]? = some (.cells #[.int .i64 n] 3 (0, 0)) ∧ w.heap.size ≤ W2.heap.size from ⟨0, M2, _, [], by omega, rfl, rfl, by simpa using HF.out, h2, hY, OwnI.nil _ _, hO, hN, hs2⟩)
  clear hY hO hN h2 hs2
  go_upto_region 4 with fail
  rw [← HW2.out]
  clear q0 q1 q2 q3 z1 z2 HW2
  go_wp2_with fail
  go_loopw [8] (fun i wr => ∃ (k : Nat) (m : M) (v : Value) (us : List Int), k ≤ n ∧ i = .int .i64 k ∧ us.length = k ∧ m.fill k (n - k) us = some (M3, ts) ∧ St w0 wr pb mb cb m ∧ wr.heap[by_]? = some (.cells #[ptr mb, .int .i64 t, v] 27 (0, 0)) ∧ OwnI wr w.heap.size v us ∧ wr.heap[bo]? = some (.cells #[.bool true] 4 (0, 0)) ∧ wr.heap[bn]? = some (.cells #[.int .i64 n] 3 (0, 0)) ∧ w.heap.size ≤ wr.heap.size) (fun i _ => n - (intOf i).toNat)
  case atStart => exact START.out
  case round =>
    clear START
    obtain ⟨k, m, v, us, hk, rfl, hus, hfl, h, hY, hU, hO, hN, hsz'⟩ := hrel
    have hul : us.length ≤ 1000 := by omega
    have HUS := Lib.hid hus
    clear hus
    have q3 := box1 hO
    have q4 := box1 hN
    by_cases hlt : k < n
    · obtain ⟨d, hd⟩ : ∃ d, n - k = d + 1 := ⟨n - k - 1, by omega⟩
      rw [hd] at hfl
      unfold M.fill at hfl
      have g1 : decide (k < n) = true := decide_eq_true hlt
      go_wp2_with fail
      refine (qAllocWord h k).mono ?_
      rintro e W3 ⟨rfl, h3, hF⟩
      generalize m.alloc (number k) = r at *
      obtain ⟨M4, y4, e4⟩ := r
      simp only at h3 hfl ⊢
      split at hfl
      · rename_i he
        subst he
        have hY3 := hF.blk h.A hY (by decide) (by decide)
        have hO3 := hF.blk h.A hO (by decide) (by decide)
        have hN3 := hF.blk h.A hN (by decide) (by decide)
        have hU3 := hU.fr h.A hF
        have hsz3 : w.heap.size ≤ W3.heap.size := Nat.le_trans hsz' hF.size
        obtain ⟨A, c, rfl⟩ := hU.slice
        clear q3 q4 hY hO hN hU h hF
        obtain ⟨q0, q1, q2⟩ := box3 hY3
        have HY3 := Lib.hid hY3
        have HO3 := Lib.hid hO3
        have HN3 := Lib.hid hN3
        clear hY3 hO3 hN3
        go_wp2_with (at_builtin; refine append_I (w0 := W3) rfl _ _ rfl w.heap.size _ us y4 hU3 rfl rfl (Below.refl _ _) hsz3 (by omega) ?_)
        intro v1 w6 hO6 hB6 hg6 hat
        have h6 : St w0 w6 pb mb cb M4 := h3.grown hU3 hw0 hg6
        have hY6 := blk_grown HY3.out hg6 (hU3.ne HY3.out (by decide))
        have hO6' := blk_grown HO3.out hg6 (hU3.ne HO3.out (by decide))
        have hN6 := blk_grown HN3.out hg6 (by intro e; have := hU3.base_ (Nat.le_refl _) bn e.symm; omega)
        have hs6 : w.heap.size ≤ w6.heap.size := Nat.le_trans hsz3 hg6.size
        clear hg6 hat hB6 h3 HY3 HO3 HN3 hU3 q0 q1 q2
        obtain ⟨q0, q1, q2⟩ := box3 hY6
        have q3 := box1 hO6'
        have z0 := blk_frozen hY6 2
        have z1 := blk_frozen hO6' 0
        obtain ⟨A6, c6, e6⟩ := hO6.slice
        rw [show (us ++ [y4]).length = us.length + 1 by simp] at e6
        subst e6
        have n23 : bo ≠ by_ := Ne.symm n12
        have ho1 := Only.set w6 ⟨by_, 2, none⟩ (.slice A6 (us.length + 1) c6)
        have d1 : (w6.setCell ⟨by_, 2, none⟩ (.slice A6 (us.length + 1) c6)).heap[by_]? = some (.cells #[ptr mb, .int .i64 t, .slice A6 (us.length + 1) c6] 27 (0, 0)) := blk_put hY6 2 (.slice A6 (us.length + 1) c6) rfl
        have d2 := (ho1.block bo n23).trans hO6'
        have d3 := (ho1.block bn (by rintro rfl; exact absurd (hN6.symm.trans hY6) (by intro e; injection e with e; injection e with _ e; exact absurd e (by decide)))).trans hN6
        have e1 := h6.only ho1 hY6 (by decide) (by decide) (by decide) b1
        have e2 := hO6.only1 ho1 hY6 (by decide)
        have ho2 := Only.set (w6.setCell ⟨by_, 2, none⟩ (.slice A6 (us.length + 1) c6)) ⟨bo, 0, none⟩ (.bool true)
        have f1 := e1.only ho2 d2 (by decide) (by decide) (by decide) b2
        have f2 := e2.only1 ho2 d2 (by decide)
        have f3 := (ho2.block by_ n12).trans d1
        have f4 : ((w6.setCell ⟨by_, 2, none⟩ (.slice A6 (us.length + 1) c6)).setCell ⟨bo, 0, none⟩ (.bool true)).heap[bo]? = some (.cells #[.bool true] 4 (0, 0)) := blk_put d2 0 (.bool true) rfl
        have f5 := (ho2.block bn (by rintro rfl; exact absurd (hN6.symm.trans hO6') (by intro e; injection e with e; injection e with _ e; exact absurd e (by decide)))).trans d3
        have FIN := Lib.hid (And.intro f1 (And.intro f2 (And.intro f3 (And.intro f4 f5))))
        clear ho1 ho2 d1 d2 d3 e1 e2 f1 f2 f3 f4 f5 hY6 hO6' hN6
        go_wp2_with fail
        go_roundw
        case rel => exact ⟨k + 1, M4, _, us ++ [y4], by omega, by go_num, by simp [HUS.out], by rw [show n - (k + 1) = d by omega]; exact hfl, FIN.out.1, FIN.out.2.2.1, FIN.out.2.1, FIN.out.2.2.2.1, FIN.out.2.2.2.2, by simp only [World.setCell, Array.size_modify]; exact hs6⟩
        case measure => simp [intOf]; omega
      · cases hfl
    · have hkn : k = n := by omega
      have g1 : decide (k < n) = false := decide_eq_false hlt
      rw [show n - k = 0 by omega] at hfl
      unfold M.fill at hfl
      injection hfl with hfl
      injection hfl with e1 e2
      subst e1 e2
      have HKN := Lib.hid hkn
      clear hkn
      go_wp2_with fail
      go_ret
      exact ⟨rfl, h, v, hY, hU, hO⟩
def LaidIn (M3 : M) (t : Int) (ts : List Int) (w : World) (e : Ending) (w' : World) : Prop := ∃ mb cb A c, e = .returned (.tuple #[.agg #[ptr mb, .int .i64 t, .slice A ts.length c], .bool true]) ∧ At w' mb cb M3 ∧ OwnI w' w.heap.size (.slice A ts.length c) ts ∧ Below w.heap.size w w' ∧ w.heap.size ≤ mb ∧ w.heap.size ≤ cb
set_option maxHeartbeats 3200000 in
set_option maxRecDepth 100000 in
theorem Lay_calls {c n : Nat} (hc : 1 ≤ c) (hc' : c ≤ 65535) (hn : n ≤ 1000) {M1 M2 M3 : M} {y t : Int} {ts : List Int} (hl : (M.new c).laid 1 D.z = (M1, y, 0)) (ha : M1.alloc (number y) = (M2, t, 0)) (hf : M2.fill 0 n [] = some (M3, ts)) (w : World) :
    Calls Try.prog 13 #[.int .i64 c, .int .i64 n] w (LaidIn M3 t ts w) := by
  obtain ⟨W1, hW1⟩ : ∃ W1 : World, W1 = (w.alloc (.cells #[.int .i64 n] 3)).alloc (.cells #[.pointer none, .int .i64 0, .slice none 0 0] 27) := ⟨_, rfl⟩
  have hB1 : Below w.heap.size w W1 := hW1 ▸ below_alloc (below_alloc (Below.refl _ _) _) _
  have kN : W1.heap[w.heap.size]? = some (.cells #[.int .i64 n] 3 (0, 0)) := hW1 ▸ blk_alloc (blk_new _ _) _
  have kR : W1.heap[w.heap.size + 1]? = some (.cells #[.pointer none, .int .i64 0, .slice none 0 0] 27 (0, 0)) := by
    have e : w.heap.size + 1 = (w.alloc (.cells #[.int .i64 n] 3)).heap.size := by simp
    rw [e]
    exact hW1 ▸ blk_new _ _
  have hz1 : W1.heap.size = w.heap.size + 2 := by rw [hW1]; simp
  have HL := Lib.hid hl
  have HA := Lib.hid ha
  have HFL := Lib.hid hf
  have HW1 := Lib.hid hW1
  clear hl ha hf hW1
  go_enter Try.func13, Try.ntmps13
  go_wp2_with fail
  rw [← HW1.out]
  refine (New_calls c W1 hc hc').mono ?_
  rintro e W2 ⟨rfl, hA2, hB2⟩
  obtain ⟨mb, hmb⟩ : ∃ b, b = W1.heap.size + 1 := ⟨_, rfl⟩
  obtain ⟨cb, hcb⟩ : ∃ b, b = W1.heap.size := ⟨_, rfl⟩
  rw [← hmb, ← hcb] at hA2
  rw [← hmb]
  have hmb' : w.heap.size ≤ mb := by omega
  have hcb' : w.heap.size ≤ cb := by omega
  have hmb2 : w.heap.size + 1 < mb := by omega
  have hcb2 : w.heap.size + 1 < cb := by omega
  have kN2 := blk_below kN hB2
  have kR2 := blk_below kR hB2
  have hB2' := below_then hB1 hB1.size hB2
  have hs2 : w.heap.size ≤ W2.heap.size := hB2'.size
  have hs2' : w.heap.size + 2 ≤ W2.heap.size := by have := hB2.size; omega
  clear kN kR hB1 hB2 hmb hcb HW1 hz1
  obtain ⟨W3, hW3⟩ : ∃ W3 : World, W3 = (W2.alloc (.cells #[ptr mb, .int .i64 0, .slice none 0 0] 27)).alloc (.cells #[.bool true] 4) := ⟨_, rfl⟩
  have hB3 : Below W2.heap.size W2 W3 := hW3 ▸ below_alloc (below_alloc (Below.refl _ _) _) _
  have kY : W3.heap[W2.heap.size]? = some (.cells #[ptr mb, .int .i64 0, .slice none 0 0] 27 (0, 0)) := hW3 ▸ blk_alloc (blk_new _ _) _
  have kO : W3.heap[W2.heap.size + 1]? = some (.cells #[.bool true] 4 (0, 0)) := by
    have e : W2.heap.size + 1 = (W2.alloc (.cells #[ptr mb, .int .i64 0, .slice none 0 0] 27)).heap.size := by simp
    rw [e]
    exact hW3 ▸ blk_new _ _
  have hA3 := hA2.below hB3
  have kN3 := blk_below kN2 hB3
  have kR3 := blk_below kR2 hB3
  have hB3' := below_then hB2' hs2 hB3
  have HW3 := Lib.hid hW3
  have HR2 := Lib.hid kR2
  clear hW3 kN2 kR2 hA2
  -- the port
  have hA4 := hA3.alloc (port0 mb)
  have hP4 : PD (W3.alloc (port0 mb)) W3.heap.size mb := blk_new _ _
  have hS : St W2 (W3.alloc (port0 mb)) W3.heap.size mb cb (M.new c) := ⟨hA4, hP4, Fr.of_below (hB3.alloc hB3.size (port0 mb)) mb cb⟩
  have kY4 := blk_alloc kY (port0 mb)
  have kO4 := blk_alloc kO (port0 mb)
  have kN4 := blk_alloc kN3 (port0 mb)
  have kR4 := blk_alloc kR3 (port0 mb)
  have HS3 := Lib.hid hB3.size
  have hCL := Lib.hid (do3_calls (mb := mb) (fun args W => enters_ Try.func70 (by kernel_rfl) rfl args W) (Lay_fn hS HL.out HA.out HFL.out hn kY4 kO4 kN4 (Nat.le_refl _) (Nat.le_succ _)))
  clear kY kO kN3 kR3 hA3 hA4 hP4 hS kY4 kO4 kN4 hB3 hB3'
  have hmf := makeFunc_run
  go_upto_region 6 with fail
  rw [← HW3.out]
  clear HW3
  go_wp2_with fail
  refine hCL.out.mono ?_
  rintro e W4 ⟨rfl, hS4, v, kY, hO, kO⟩
  have kR5 := (hS4.F.block (w.heap.size + 1) (by omega) (by omega) (by omega)).trans HR2.out
  obtain ⟨A, cc, rfl⟩ := hO.slice
  obtain ⟨y0, y1, y2⟩ := box3 kY
  have o0 := box1 kO
  obtain ⟨q0, q1, q2⟩ := box3 kR5
  have z0 := blk_frozen kR5 0
  have z1 := blk_frozen kR5 1
  have z2 := blk_frozen kR5 2
  have hbw : w.heap.size ≤ w.heap.size + 1 := by omega
  have hB4 : Below w.heap.size w W4 := ⟨hS4.F.os.trans hB2'.os, hS4.F.tape.trans hB2'.tape, hS4.F.output.trans hB2'.output, Nat.le_trans hB2'.size hS4.F.size, fun k hk => (hS4.F.block k (by omega) (by omega) (by omega)).trans (hB2'.block k hk)⟩
  have hO4 : OwnI W4 w.heap.size (.slice A ts.length cc) ts := own_weaken hO (by have := HS3.out; simp; omega)
  have hA5 := hS4.A
  clear hO hS4 hCL
  go_upto_region 7 with fail
  refine start_ (n := 4) (S := fun w' => w'.cell? ⟨W2.heap.size, 0, none⟩ = some (ptr mb) ∧ w'.cell? ⟨W2.heap.size, 1, none⟩ = some (.int .i64 t) ∧ w'.cell? ⟨W2.heap.size, 2, none⟩ = some (.slice A ts.length cc) ∧ w'.cell? ⟨W2.heap.size + 1, 0, none⟩ = some (.bool true)) (ds := []) #[false, false, false, false] rfl rfl rfl (⟨y0, y1, y2, o0⟩) ?_
  intro hHeld
  refine take_ (i := 0) (N := some 27) (v := ?_) (a' := ?_) #[true, false, false, false] rfl rfl (by kernel_rfl) (fun _ _ _ h => h) (Or.inl ⟨by rfl, ?_⟩) hHeld ?_ ?_
  rotate_left
  · rintro w' hHeld'
    have hHeld'' := hHeld'
    (try obtain ⟨r0_, r1_⟩ := hHeld')
    (try obtain ⟨r1_, r2_⟩ := r1_)
    (try obtain ⟨r2_, r3_⟩ := r2_)
    (try obtain ⟨r3_, r4_⟩ := r3_)
    (try obtain ⟨r4_, r5_⟩ := r4_)
    (try obtain ⟨r5_, r6_⟩ := r5_)
    (try obtain ⟨r6_, r7_⟩ := r6_)
    (try obtain ⟨r7_, r8_⟩ := r7_)
    (try obtain ⟨r8_, r9_⟩ := r8_)
    (try obtain ⟨r9_, r10_⟩ := r9_)
    (try obtain ⟨r10_, r11_⟩ := r10_)
    (try obtain ⟨r11_, r12_⟩ := r11_)
    (try obtain ⟨r12_, r13_⟩ := r12_)
    (try obtain ⟨r13_, r14_⟩ := r13_)
    (try obtain ⟨r14_, r15_⟩ := r14_)
    (try obtain ⟨r15_, r16_⟩ := r15_)
    (try obtain ⟨r16_, r17_⟩ := r16_)
    (try obtain ⟨r17_, r18_⟩ := r17_)
    (try obtain ⟨r18_, r19_⟩ := r18_)
    (try obtain ⟨r19_, r20_⟩ := r19_)
    (try obtain ⟨r20_, r21_⟩ := r20_)
    (try obtain ⟨r21_, r22_⟩ := r21_)
    (try obtain ⟨r22_, r23_⟩ := r22_)
    (try obtain ⟨r23_, r24_⟩ := r23_)
    (try obtain ⟨r24_, r25_⟩ := r24_)
    (try obtain ⟨r25_, r26_⟩ := r25_)
    (try obtain ⟨r26_, r27_⟩ := r26_)
    (try obtain ⟨r27_, r28_⟩ := r27_)
    (try obtain ⟨r28_, r29_⟩ := r28_)
    (try obtain ⟨r29_, r30_⟩ := r29_)
    (try obtain ⟨r7_, r8_⟩ := r7_)
    (try obtain ⟨r8_, r9_⟩ := r8_)
    go_simp
    with_reducible rfl
  rotate_left
  · simp only [Act.put, List.setIfInBounds_toArray, List.set_cons_zero, List.set_cons_succ, i64_w, i32_w]
    rfl
  refine take_ (i := 1) (N := some 28) (v := ?_) (a' := ?_) #[true, true, false, false] rfl rfl (by kernel_rfl) (fun _ _ _ h => h) (Or.inl ⟨by rfl, ?_⟩) hHeld ?_ ?_
  rotate_left
  · rintro w' hHeld'
    have hHeld'' := hHeld'
    (try obtain ⟨r0_, r1_⟩ := hHeld')
    (try obtain ⟨r1_, r2_⟩ := r1_)
    (try obtain ⟨r2_, r3_⟩ := r2_)
    (try obtain ⟨r3_, r4_⟩ := r3_)
    (try obtain ⟨r4_, r5_⟩ := r4_)
    (try obtain ⟨r5_, r6_⟩ := r5_)
    (try obtain ⟨r6_, r7_⟩ := r6_)
    (try obtain ⟨r7_, r8_⟩ := r7_)
    (try obtain ⟨r8_, r9_⟩ := r8_)
    (try obtain ⟨r9_, r10_⟩ := r9_)
    (try obtain ⟨r10_, r11_⟩ := r10_)
    (try obtain ⟨r11_, r12_⟩ := r11_)
    (try obtain ⟨r12_, r13_⟩ := r12_)
    (try obtain ⟨r13_, r14_⟩ := r13_)
    (try obtain ⟨r14_, r15_⟩ := r14_)
    (try obtain ⟨r15_, r16_⟩ := r15_)
    (try obtain ⟨r16_, r17_⟩ := r16_)
    (try obtain ⟨r17_, r18_⟩ := r17_)
    (try obtain ⟨r18_, r19_⟩ := r18_)
    (try obtain ⟨r19_, r20_⟩ := r19_)
    (try obtain ⟨r20_, r21_⟩ := r20_)
    (try obtain ⟨r21_, r22_⟩ := r21_)
    (try obtain ⟨r22_, r23_⟩ := r22_)
    (try obtain ⟨r23_, r24_⟩ := r23_)
    (try obtain ⟨r24_, r25_⟩ := r24_)
    (try obtain ⟨r25_, r26_⟩ := r25_)
    (try obtain ⟨r26_, r27_⟩ := r26_)
    (try obtain ⟨r27_, r28_⟩ := r27_)
    (try obtain ⟨r28_, r29_⟩ := r28_)
    (try obtain ⟨r29_, r30_⟩ := r29_)
    (try obtain ⟨r7_, r8_⟩ := r7_)
    (try obtain ⟨r8_, r9_⟩ := r8_)
    go_simp
    with_reducible rfl
  rotate_left
  · simp only [Act.put, List.setIfInBounds_toArray, List.set_cons_zero, List.set_cons_succ, i64_w, i32_w]
    rfl
  have ho := ((Only.set W4 ⟨w.heap.size + 1, 0, none⟩ (ptr mb)).trans (Only.set _ ⟨w.heap.size + 1, 1, none⟩ (.int .i64 t))).trans (Only.set _ ⟨w.heap.size + 1, 2, none⟩ (.slice A ts.length cc))
  have hk : (((W4.setCell ⟨w.heap.size + 1, 0, none⟩ (ptr mb)).setCell ⟨w.heap.size + 1, 1, none⟩ (.int .i64 t)).setCell ⟨w.heap.size + 1, 2, none⟩ (.slice A ts.length cc)).heap[w.heap.size + 1]? = some (.cells #[ptr mb, .int .i64 t, .slice A ts.length cc] 27 (0, 0)) := blk_put (blk_put (blk_put kR5 0 (ptr mb) rfl) 1 (.int .i64 t) rfl) 2 (.slice A ts.length cc) rfl
  have hY' := (ho.block W2.heap.size (by show W2.heap.size ≠ w.heap.size + 1; omega)).trans kY
  have hO' := (ho.block (W2.heap.size + 1) (by show W2.heap.size + 1 ≠ w.heap.size + 1; omega)).trans kO
  have hX := And.intro (box3 hY').1 (And.intro (box3 hY').2.1 (And.intro (box3 hY').2.2 (box1 hO')))
  have HX := Lib.hid hX
  have FIN := Lib.hid (show LaidIn M3 t ts w (.returned (.tuple #[.agg #[ptr mb, .int .i64 t, .slice A ts.length cc], .bool true])) _ from ⟨mb, cb, A, cc, rfl, (hA5.only ho (by show mb ≠ w.heap.size + 1; omega) (by show cb ≠ w.heap.size + 1; omega)).drewN 1, OwnI.move (hO4.only1 ho kR5 (by decide)) (fun _ _ => rfl), pw_below_drewN ⟨ho.os.trans hB4.os, ho.tape.trans hB4.tape, ho.output.trans hB4.output, by rw [ho.size]; exact hB4.size, fun k hk => (ho.block k (by show k ≠ w.heap.size + 1; omega)).trans (hB4.block k hk)⟩ 1, hmb', hcb'⟩)
  obtain ⟨u0, u1, u2⟩ := box3 hk
  clear hX hY' hO' hk ho
  refine one_ (i := 2) (N := none) #[true, true, true, false] rfl rfl (by kernel_rfl) (by decide) (fun K hSh => ?_)
  refine skip_ (w1 := (((W4.setCell ⟨w.heap.size + 1, 0, none⟩ (ptr mb)).setCell ⟨w.heap.size + 1, 1, none⟩ (.int .i64 t)).setCell ⟨w.heap.size + 1, 2, none⟩ (.slice A ts.length cc)).drew) (by rfl) rfl (by go_simp <;> rfl) ?_
  refine hSh.out _ _ (HX.out) ?_
  clear hHeld
  intro hHeld
  refine pure_ (i := 3) (N := some 5) (v := ?_) (a' := ?_) #[true, true, true, true] rfl rfl (by kernel_rfl) (fun _ _ _ h => h) (Or.inl ⟨by rfl, ?_⟩) ?_ ?_
  rotate_left
  · intro w'
    go_simp
    with_reducible rfl
  rotate_left
  · simp only [Act.put, List.setIfInBounds_toArray, List.set_cons_zero, List.set_cons_succ, i64_w, i32_w]
    rfl
  refine done_ (by kernel_rfl) ?_
  clear hHeld y0 y1 y2 o0 q0 q1 q2 z0 z1 z2
  go_wp2_with fail
  exact bodyPost_ret (v := .tuple #[.agg #[ptr mb, .int .i64 t, .slice A ts.length cc], .bool true]) (by simp [results, Try.results13, go_sem, u0, u1, u2]) rfl FIN.out
end
end Go.Proofs.Ytahnmklofgnagaa.Mem
