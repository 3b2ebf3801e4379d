/- rundlelaw16.lay: memory, and a node with its chain: the function. -/
import Derived.Test.YtcfbjcadpcedhaaNLay
namespace Go.Proofs.Ytcfbjcadpcedhaa.Mem
open Go.RowKit Go.Proofs.YtcfbjcadpcedhaaW.PrintWords Go.Proofs.YtcfbjcadpcedhaaW.PrintLast Go.Proofs.Ytcfbjcadpcedhaa.Tags
set_option linter.unusedVariables false
set_option linter.unusedSimpArgs false
section
variable {w0 w w' : World} {pb mb cb : Nat} {m m' : M}
theorem froz7 {g : Nat} {t : TypeId} {v0 v1 v2 v3 v4 v5 v6 : Value} {w : World} (h : w.heap[g]? = some (.cells #[v0, v1, v2, v3, v4, v5, v6] t (0, 0))) : w.frozen? ⟨g, 0, none⟩ = false ∧ w.frozen? ⟨g, 1, none⟩ = false ∧ w.frozen? ⟨g, 2, none⟩ = false ∧ w.frozen? ⟨g, 3, none⟩ = false ∧ w.frozen? ⟨g, 4, none⟩ = false ∧ w.frozen? ⟨g, 5, none⟩ = false ∧ w.frozen? ⟨g, 6, none⟩ = false :=
  ⟨blk_frozen h 0, blk_frozen h 1, blk_frozen h 2, blk_frozen h 3, blk_frozen h 4, blk_frozen h 5, blk_frozen h 6⟩
abbrev set7 (w : World) (b : Nat) (v0 v1 v2 v3 v4 v5 v6 : Value) : World := (((((((w.setCell ⟨b, 0, none⟩ v0).setCell ⟨b, 1, none⟩ v1).setCell ⟨b, 2, none⟩ v2).setCell ⟨b, 3, none⟩ v3).setCell ⟨b, 4, none⟩ v4).setCell ⟨b, 5, none⟩ v5).setCell ⟨b, 6, none⟩ v6)
theorem only7 (w : World) (b : Nat) (v0 v1 v2 v3 v4 v5 v6 : Value) : Only w (set7 w b v0 v1 v2 v3 v4 v5 v6) b := ((((((Only.set w ⟨b, 0, none⟩ v0).trans (Only.set _ ⟨b, 1, none⟩ v1)).trans (Only.set _ ⟨b, 2, none⟩ v2)).trans (Only.set _ ⟨b, 3, none⟩ v3)).trans (Only.set _ ⟨b, 4, none⟩ v4)).trans (Only.set _ ⟨b, 5, none⟩ v5)).trans (Only.set _ ⟨b, 6, none⟩ v6)
theorem blk7 {b : Nat} {t : TypeId} {u0 u1 u2 u3 u4 u5 u6 : Value} (h : w.heap[b]? = some (.cells #[u0, u1, u2, u3, u4, u5, u6] t (0, 0))) (v0 v1 v2 v3 v4 v5 v6 : Value) : (set7 w b v0 v1 v2 v3 v4 v5 v6).heap[b]? = some (.cells #[v0, v1, v2, v3, v4, v5, v6] t (0, 0)) := by
  have h0 : (w.setCell ⟨b, 0, none⟩ v0).heap[b]? = some (.cells #[v0, u1, u2, u3, u4, u5, u6] t (0, 0)) := blk_put h 0 v0 rfl
  have h1 : ((w.setCell ⟨b, 0, none⟩ v0).setCell ⟨b, 1, none⟩ v1).heap[b]? = some (.cells #[v0, v1, u2, u3, u4, u5, u6] t (0, 0)) := blk_put h0 1 v1 rfl
  have h2 : (((w.setCell ⟨b, 0, none⟩ v0).setCell ⟨b, 1, none⟩ v1).setCell ⟨b, 2, none⟩ v2).heap[b]? = some (.cells #[v0, v1, v2, u3, u4, u5, u6] t (0, 0)) := blk_put h1 2 v2 rfl
  have h3 : ((((w.setCell ⟨b, 0, none⟩ v0).setCell ⟨b, 1, none⟩ v1).setCell ⟨b, 2, none⟩ v2).setCell ⟨b, 3, none⟩ v3).heap[b]? = some (.cells #[v0, v1, v2, v3, u4, u5, u6] t (0, 0)) := blk_put h2 3 v3 rfl
  have h4 : (((((w.setCell ⟨b, 0, none⟩ v0).setCell ⟨b, 1, none⟩ v1).setCell ⟨b, 2, none⟩ v2).setCell ⟨b, 3, none⟩ v3).setCell ⟨b, 4, none⟩ v4).heap[b]? = some (.cells #[v0, v1, v2, v3, v4, u5, u6] t (0, 0)) := blk_put h3 4 v4 rfl
  have h5 : ((((((w.setCell ⟨b, 0, none⟩ v0).setCell ⟨b, 1, none⟩ v1).setCell ⟨b, 2, none⟩ v2).setCell ⟨b, 3, none⟩ v3).setCell ⟨b, 4, none⟩ v4).setCell ⟨b, 5, none⟩ v5).heap[b]? = some (.cells #[v0, v1, v2, v3, v4, v5, u6] t (0, 0)) := blk_put h4 5 v5 rfl
  have h6 : (((((((w.setCell ⟨b, 0, none⟩ v0).setCell ⟨b, 1, none⟩ v1).setCell ⟨b, 2, none⟩ v2).setCell ⟨b, 3, none⟩ v3).setCell ⟨b, 4, none⟩ v4).setCell ⟨b, 5, none⟩ v5).setCell ⟨b, 6, none⟩ v6).heap[b]? = some (.cells #[v0, v1, v2, v3, v4, v5, v6] t (0, 0)) := blk_put h5 6 v6 rfl
  exact h6
/-- Memory, a node and its chain, as lay tells them. -/
structure Yd16 (m : M) (rs : List Int) (z H t0 t1 t2 : Int) (l : List (Int × Ag)) (vs hs : List Int) (AN : Option Addr) (kN : Nat) : Prop where
  vl : vs = vers l
  hl : hs = hands l
  vr : vs = vsOf rs
  dd : ∀ x ∈ l, x.2.dead = true
  len : l.length = rs.length
  row : Row m z l 200 (2 * rs.length + 4) 0
  nd : NodeAt m H z ⟨#[107]⟩ t0 t1 t2 AN kN l
def LaidIn16 (rs : List Int) (w : World) (e : Ending) (w' : World) : Prop :=
  ∃ (mb cb : Nat) (m : M) (z H t0 t1 t2 : Int) (l : List (Int × Ag)) (vs hs : List Int) (A1 A2 AN : Option Addr) (c1 c2 kN : Nat), e = .returned (.tuple #[.agg (yardV mb H ⟨#[107]⟩ t0 (.slice AN 2 kN) (.slice A1 vs.length c1) (.slice A2 hs.length c2)), .bool true]) ∧ Yd16 m rs z H t0 t1 t2 l vs hs AN kN ∧ At w' mb cb m ∧
    OwnI w' w.heap.size (.slice A1 vs.length c1) vs ∧ OwnI w' w.heap.size (.slice A2 hs.length c2) hs ∧ RdT w' AN [t1, t2] ∧ Below w.heap.size w w' ∧ w.heap.size ≤ mb ∧ w.heap.size ≤ cb
abbrev port0 (mb : Nat) : Obj := .cells #[ptr mb, .slice none 0 0, .int .i64 0, .int .i64 (-1), .int .i64 0] 85
theorem do1_calls {K : Nat} {c : Value} {v : Value} {Q : World → Prop} (hK : ∀ args W, (callFunc K args).run Try.prog W = .ok (.enter K args) W) (hd : Calls Try.prog K #[ptr w.heap.size, c] (w.alloc (port0 mb)) fun e w' => e = .returned v ∧ Q w') :
    Calls Try.prog 13 #[ptr mb, .func (Fn.func K) #[] #[c]] w fun e w' => e = .returned v ∧ Q w' := by
  have hk := hK #[ptr w.heap.size, c]
  have HD := Lib.hid hd
  clear hK hd
  go_enter Try.func13, Try.ntmps13
  go_wp2_with fail
  refine HD.out.mono ?_
  rintro e W ⟨rfl, hq⟩
  have HQ := Lib.hid hq
  clear hq
  go_wp2_with fail
  go_ret
  exact ⟨rfl, HQ.out⟩
theorem do2_calls {K : Nat} {c1 c2 : Value} {v : Value} {Q : World → Prop} (hK : ∀ args W, (callFunc K args).run Try.prog W = .ok (.enter K args) W) (hd : Calls Try.prog K #[ptr w.heap.size, c1, c2] (w.alloc (port0 mb)) fun e w' => e = .returned v ∧ Q w') :
    Calls Try.prog 13 #[ptr mb, .func (Fn.func K) #[] #[c1, c2]] w fun e w' => e = .returned v ∧ Q w' := by
  have hk := hK #[ptr w.heap.size, c1, c2]
  have HD := Lib.hid hd
  clear hK hd
  go_enter Try.func13, Try.ntmps13
  go_wp2_with fail
  refine HD.out.mono ?_
  rintro e W ⟨rfl, hq⟩
  have HQ := Lib.hid hq
  clear hq
  go_wp2_with fail
  go_ret
  exact ⟨rfl, HQ.out⟩
theorem do3_calls {K : Nat} {c1 c2 c3 : Value} {v : Value} {Q : World → Prop} (hK : ∀ args W, (callFunc K args).run Try.prog W = .ok (.enter K args) W) (hd : Calls Try.prog K #[ptr w.heap.size, c1, c2, c3] (w.alloc (port0 mb)) fun e w' => e = .returned v ∧ Q w') :
    Calls Try.prog 13 #[ptr mb, .func (Fn.func K) #[] #[c1, c2, c3]] w fun e w' => e = .returned v ∧ Q w' := by
  have hk := hK #[ptr w.heap.size, c1, c2, c3]
  have HD := Lib.hid hd
  clear hK hd
  go_enter Try.func13, Try.ntmps13
  go_wp2_with fail
  refine HD.out.mono ?_
  rintro e W ⟨rfl, hq⟩
  have HQ := Lib.hid hq
  clear hq
  go_wp2_with fail
  go_ret
  exact ⟨rfl, HQ.out⟩
theorem live_w (hA : At w mb cb m) {v : Int} (hv : m.live = v) : Calls Try.prog 16 #[ptr mb] w fun e w' => e = .returned (.int .i64 v) ∧ w = w' := hv ▸ live_calls hA
set_option maxHeartbeats 6400000 in
set_option maxRecDepth 100000 in
theorem nlay_calls {Ar : Option Addr} {cr : Nat} {rs : List Int} (hrl : rs.length ≤ 40) (hr8 : ∀ r ∈ rs, 0 ≤ r ∧ r ≤ 255) (hR : U8 w Ar rs) :
    Calls Try.prog 19 #[.slice Ar rs.length cr] w (LaidIn16 rs w) := by
  obtain ⟨W1, hW1⟩ : ∃ W1 : World, W1 = (w.alloc (.cells #[.slice Ar rs.length cr] 44)).alloc (.cells #[.pointer none, .int .i64 0, .string ⟨#[]⟩, .int .i64 0, .slice none 0 0, .slice none 0 0, .slice none 0 0] 48) := ⟨_, rfl⟩
  have hB1 : Below w.heap.size w W1 := hW1 ▸ below_alloc (below_alloc (Below.refl _ _) _) _
  have kA : W1.heap[w.heap.size]? = some (.cells #[.slice Ar rs.length cr] 44 (0, 0)) := hW1 ▸ blk_alloc (blk_new _ _) _
  have kR : W1.heap[w.heap.size + 1]? = some (.cells #[.pointer none, .int .i64 0, .string ⟨#[]⟩, .int .i64 0, .slice none 0 0, .slice none 0 0, .slice none 0 0] 48 (0, 0)) := by
    have e : w.heap.size + 1 = (w.alloc (.cells #[.slice Ar rs.length cr] 44)).heap.size := by simp
    rw [e]
    exact hW1 ▸ blk_new _ _
  have HW1 := Lib.hid hW1
  have HR := Lib.hid hR
  have HR8 := Lib.hid hr8
  have hz1 : W1.heap.size = w.heap.size + 2 := by rw [hW1]; simp
  clear hW1 hR hr8
  go_enter Try.func19, Try.ntmps19
  go_upto_region 1 with fail
  rw [← HW1.out]
  clear HW1
  go_wp2_with fail
  refine (New_calls 200 W1 (by decide) (by decide)).mono ?_
  rintro e W2 ⟨rfl, hA2, hB2⟩
  obtain ⟨mb, hmb⟩ : ∃ b, b = W1.heap.size + 1 := ⟨_, rfl⟩
  obtain ⟨cb, hcb⟩ : ∃ b, b = W1.heap.size := ⟨_, rfl⟩
  rw [← hmb, ← hcb] at hA2
  rw [← hmb]
  have hmb' : w.heap.size + 2 ≤ mb := by omega
  have hcb' : w.heap.size + 2 ≤ cb := by omega
  have kA2 := blk_below kA hB2
  have kR2 := blk_below kR hB2
  have hB2' := below_then hB1 hB1.size hB2
  have hs2 := hB2.size
  clear hB1 hB2 kA kR hmb hcb
  obtain ⟨W3, hW3⟩ : ∃ W3 : World, W3 = (W2.alloc (.cells #[ptr mb, .int .i64 0, .string ⟨#[]⟩, .int .i64 0, .slice none 0 0, .slice none 0 0, .slice none 0 0] 48)).alloc (.cells #[.bool true] 4) := ⟨_, rfl⟩
  have hB3 : Below W2.heap.size W2 W3 := hW3 ▸ below_alloc (below_alloc (Below.refl _ _) _) _
  have kY : W3.heap[W2.heap.size]? = some (.cells (yardV mb 0 ⟨#[]⟩ 0 (.slice none 0 0) (.slice none 0 0) (.slice none 0 0)) 48 (0, 0)) := hW3 ▸ blk_alloc (blk_new _ _) _
  have kO : W3.heap[W2.heap.size + 1]? = some (.cells #[.bool true] 4 (0, 0)) := by
    have e : W2.heap.size + 1 = (W2.alloc (.cells #[ptr mb, .int .i64 0, .string ⟨#[]⟩, .int .i64 0, .slice none 0 0, .slice none 0 0, .slice none 0 0] 48)).heap.size := by simp
    rw [e]
    exact hW3 ▸ blk_new _ _
  have kA3 := blk_below kA2 hB3
  have hA3 := hA2.below hB3
  have hz3 : W3.heap.size = W2.heap.size + 2 := by rw [hW3]; simp
  have HW3 := Lib.hid hW3
  have HR2 := Lib.hid kR2
  have HKA2 := Lib.hid kA2
  clear hW3 kA2 kR2 hA2
  have hA4 := hA3.alloc (port0 mb)
  have hP4 : PD (W3.alloc (port0 mb)) W3.heap.size mb := blk_new _ _
  have hS : St W2 (W3.alloc (port0 mb)) W3.heap.size mb cb (M.new 200) := ⟨hA4, hP4, Fr.of_below (hB3.alloc hB3.size (port0 mb)) mb cb⟩
  have hzz : (W3.alloc (port0 mb)).heap.size = W2.heap.size + 3 := by simp [hz3]
  have hlp := nlay_loop hS (W0 := w) hrl HR8.out HR.out hB2' (by omega) (by omega) (blk_alloc kA3 (port0 mb)) (blk_alloc kO (port0 mb)) (blk_alloc kY (port0 mb)) (Nat.le_refl _) (Nat.le_succ _) (by omega)
  have hCL := Lib.hid (do3_calls (mb := mb) (fun args W => enters_ Try.func51 (by kernel_rfl) rfl args W) (hlp.mono fun e w' he => he))
  have HKA := Lib.hid kA3
  have HZ3 := Lib.hid hz3
  have HZZ := Lib.hid hzz
  clear kY kO kA3 hA3 hA4 hP4 hS hB3 hlp hz3 hzz
  have hmf := makeFunc_run
  go_upto_region 6 with fail
  rw [← HW3.out]
  clear HW3
  go_wp2_with fail
  refine hCL.out.mono ?_
  rintro e W4 ⟨rfl, m, z, H, t0, t1, t2, l, vs, hs, A1, A2, AN, c1, c2, kN, hvl, hhl, hvr, hdd, hll, hrow, hnd, hS4, kY, kO, hO1, hO2, hRN⟩
  have hyd : Yd16 m rs z H t0 t1 t2 l vs hs AN kN := ⟨hvl, hhl, hvr, hdd, hll, hrow, hnd⟩
  have hlv : m.live = 2 * (rs.length : Int) + 4 := by have := hrow.S.live; rw [this]; omega
  have HYD := Lib.hid hyd
  have HLV := Lib.hid hlv
  have kA4 := (hS4.F.block w.heap.size (by omega) (by omega) (by omega)).trans HKA2.out
  have kR5 := (hS4.F.block (w.heap.size + 1) (by omega) (by omega) (by omega)).trans HR2.out
  obtain ⟨y0, y1, y2, y3, y4, y5, y6⟩ := box7 kY
  have o0 := box1 kO
  have r0 := box1 kA4
  obtain ⟨q0, q1, q2, q3, q4, q5, q6⟩ := box7 kR5
  obtain ⟨z0, z1, z2, z3, z4, z5, z6⟩ := froz7 kR5
  have hB4 : Below w.heap.size w W4 := hS4.F.over hB2' hB2'.size (by omega) (by omega)
  have hA5 := hS4.A
  have hs3 : w.heap.size ≤ (W3.alloc (port0 mb)).heap.size := by rw [HZZ.out]; omega
  have hP1 := hO1.lower_ hs3
  have hP2 := hO2.lower_ hs3
  have e1 : IntKind.i64.wrap (2 * (rs.length : Int)) = 2 * (rs.length : Int) := by rw [IntKind.wrap_i64]; omega
  have e2 : IntKind.i64.wrap (2 * (rs.length : Int) + 4) = 2 * (rs.length : Int) + 4 := by rw [IntKind.wrap_i64]; omega
  have kR6 : (W4.drewN 1).heap[w.heap.size + 1]? = some (.cells #[.pointer none, .int .i64 0, .string ⟨#[]⟩, .int .i64 0, .slice none 0 0, .slice none 0 0, .slice none 0 0] 48 (0, 0)) := kR5
  have kY6 : (W4.drewN 1).heap[W2.heap.size]? = _ := kY
  have kO6 : (W4.drewN 1).heap[W2.heap.size + 1]? = _ := kO
  have kA6 : (W4.drewN 1).heap[w.heap.size]? = _ := kA4
  have hA6 := hA5.drewN 1
  have hB6 := pw_below_drewN hB4 1
  have hQ1 : OwnI (W4.drewN 1) w.heap.size (.slice A1 vs.length c1) vs := hP1.below (pw_below_drewN (Below.refl _ _) 1)
  have hQ2 : OwnI (W4.drewN 1) w.heap.size (.slice A2 hs.length c2) hs := hP2.below (pw_below_drewN (Below.refl _ _) 1)
  have hQN := hRN.below (pw_below_drewN (Below.refl W4.heap.size W4) 1)
  have ho := only7 (W4.drewN 1) (w.heap.size + 1) (ptr mb) (.int .i64 H) (.string ⟨#[107]⟩) (.int .i64 t0) (.slice AN 2 kN) (.slice A1 vs.length c1) (.slice A2 hs.length c2)
  have hk := blk7 kR6 (ptr mb) (.int .i64 H) (.string ⟨#[107]⟩) (.int .i64 t0) (.slice AN 2 kN) (.slice A1 vs.length c1) (.slice A2 hs.length c2)
  obtain ⟨X1, hX1⟩ : ∃ X1, set7 (W4.drewN 1) (w.heap.size + 1) (ptr mb) (.int .i64 H) (.string ⟨#[107]⟩) (.int .i64 t0) (.slice AN 2 kN) (.slice A1 vs.length c1) (.slice A2 hs.length c2) = X1 := ⟨_, rfl⟩
  rw [hX1] at ho hk
  have hY' : X1.heap[W2.heap.size]? = some (.cells (yardV mb H ⟨#[107]⟩ t0 (.slice AN 2 kN) (.slice A1 vs.length c1) (.slice A2 hs.length c2)) 48 (0, 0)) := (ho.block W2.heap.size (by omega)).trans kY6
  have hO' : X1.heap[W2.heap.size + 1]? = some (.cells #[.bool true] 4 (0, 0)) := (ho.block (W2.heap.size + 1) (by omega)).trans kO6
  have hA' : X1.heap[w.heap.size]? = some (.cells #[.slice Ar rs.length cr] 44 (0, 0)) := (ho.block w.heap.size (by omega)).trans kA6
  have hk' : X1.heap[w.heap.size + 1]? = some (.cells (yardV mb H ⟨#[107]⟩ t0 (.slice AN 2 kN) (.slice A1 vs.length c1) (.slice A2 hs.length c2)) 48 (0, 0)) := hk
  obtain ⟨j0, j1, j2, j3, j4, j5, j6⟩ := box7 hY'
  have hO1x : OwnI X1 w.heap.size (.slice A1 vs.length c1) vs := hQ1.only1 ho kR6 (by decide)
  have hO2x : OwnI X1 w.heap.size (.slice A2 hs.length c2) hs := hQ2.only1 ho kR6 (by decide)
  have hRNx : RdT X1 AN [t1, t2] := hQN.only1 ho kR6 (by decide)
  have hAx : At X1 mb cb m := hA6.only ho (by omega) (by omega)
  have hBx : Below w.heap.size w X1 := ⟨ho.os.trans hB6.os, ho.tape.trans hB6.tape, ho.output.trans hB6.output, by rw [ho.size]; exact hB6.size, fun k hk => (ho.block k (by omega)).trans (hB6.block k hk)⟩
  have HX := Lib.hid (And.intro j0 (And.intro j1 (And.intro j2 (And.intro j3 (And.intro j4 (And.intro j5 (And.intro j6 (And.intro (box1 hO') (box1 hA')))))))))
  have FIN := Lib.hid (show LaidIn16 rs w (.returned (.tuple #[.agg (yardV mb H ⟨#[107]⟩ t0 (.slice AN 2 kN) (.slice A1 vs.length c1) (.slice A2 hs.length c2)), .bool true])) X1 from ⟨mb, cb, m, z, H, t0, t1, t2, l, vs, hs, A1, A2, AN, c1, c2, kN, rfl, HYD.out, hAx, hO1x, hO2x, hRNx, hBx, by omega, by omega⟩)
  have HU := Lib.hid (box7 hk')
  have HX1 := Lib.hid hX1
  clear ho hk hY' hO' hA' j0 j1 j2 j3 j4 j5 j6 hk' hO1x hO2x hRNx hAx hBx hX1 hP1 hP2 hRN kY kO kA4 hB2' hB4 kR6 kY6 kO6 kA6 hA6 hB6 hQ1 hQ2 hQN
  have hlive := live_w (w := W4.drewN 1) (hA5.drewN 1) HLV.out
  have HLIVE := Lib.hid hlive
  clear hvl hhl hvr hdd hll hrow hnd hyd hlv hS4 hCL hO1 hO2 hlive
  go_upto_region 7 with fail
  refine start_ (n := 13) (S := fun w' => w'.cell? ⟨W2.heap.size, 0, none⟩ = some (ptr mb) ∧ w'.cell? ⟨W2.heap.size, 1, none⟩ = some (.int .i64 H) ∧ w'.cell? ⟨W2.heap.size, 2, none⟩ = some (.string ⟨#[107]⟩) ∧ w'.cell? ⟨W2.heap.size, 3, none⟩ = some (.int .i64 t0) ∧ w'.cell? ⟨W2.heap.size, 4, none⟩ = some (.slice AN 2 kN) ∧ w'.cell? ⟨W2.heap.size, 5, none⟩ = some (.slice A1 vs.length c1) ∧ w'.cell? ⟨W2.heap.size, 6, none⟩ = some (.slice A2 hs.length c2) ∧ w'.cell? ⟨W2.heap.size + 1, 0, none⟩ = some (.bool true) ∧ w'.cell? ⟨w.heap.size, 0, none⟩ = some (.slice Ar rs.length cr)) (ds := []) #[false, false, false, false, false, false, false, false, false, false, false, false, false] rfl rfl rfl (⟨y0, y1, y2, y3, y4, y5, y6, o0, r0⟩) ?_
  intro hHeld
  refine take_ (i := 0) (N := some 24) (v := ?_) (a' := ?_) #[true, false, false, false, false, false, false, false, false, false, false, false, false] rfl rfl (by kernel_rfl) (fun _ _ _ h => h) (Or.inl ⟨by rfl, ?_⟩) hHeld ?_ ?_
  rotate_left
  · rintro w' hHeld'
    have hHeld'' := hHeld'
    (try obtain ⟨r0_, r1_⟩ := hHeld')
    (try obtain ⟨r1_, r2_⟩ := r1_)
    (try obtain ⟨r2_, r3_⟩ := r2_)
    (try obtain ⟨r3_, r4_⟩ := r3_)
    (try obtain ⟨r4_, r5_⟩ := r4_)
    (try obtain ⟨r5_, r6_⟩ := r5_)
    (try obtain ⟨r6_, r7_⟩ := r6_)
    (try obtain ⟨r7_, r8_⟩ := r7_)
    (try obtain ⟨r8_, r9_⟩ := r8_)
    go_simp
    with_reducible rfl
  rotate_left
  · simp only [Act.put, List.setIfInBounds_toArray, List.set_cons_zero, List.set_cons_succ, i64_w, i32_w]
    rfl
  refine take_ (i := 1) (N := some 25) (v := ?_) (a' := ?_) #[true, true, false, false, false, false, false, false, false, false, false, false, false] rfl rfl (by kernel_rfl) (fun _ _ _ h => h) (Or.inl ⟨by rfl, ?_⟩) hHeld ?_ ?_
  rotate_left
  · rintro w' hHeld'
    have hHeld'' := hHeld'
    (try obtain ⟨r0_, r1_⟩ := hHeld')
    (try obtain ⟨r1_, r2_⟩ := r1_)
    (try obtain ⟨r2_, r3_⟩ := r2_)
    (try obtain ⟨r3_, r4_⟩ := r3_)
    (try obtain ⟨r4_, r5_⟩ := r4_)
    (try obtain ⟨r5_, r6_⟩ := r5_)
    (try obtain ⟨r6_, r7_⟩ := r6_)
    (try obtain ⟨r7_, r8_⟩ := r7_)
    (try obtain ⟨r8_, r9_⟩ := r8_)
    go_simp
    with_reducible rfl
  rotate_left
  · simp only [Act.put, List.setIfInBounds_toArray, List.set_cons_zero, List.set_cons_succ, i64_w, i32_w]
    rfl
  refine pure_ (i := 2) (N := some 26) (v := ?_) (a' := ?_) #[true, true, true, false, false, false, false, false, false, false, false, false, false] rfl rfl (by kernel_rfl) (fun _ _ _ h => h) (Or.inl ⟨by rfl, ?_⟩) ?_ ?_
  rotate_left
  · intro w'
    go_simp
    with_reducible rfl
  rotate_left
  · simp only [Act.put, List.setIfInBounds_toArray, List.set_cons_zero, List.set_cons_succ, i64_w, i32_w]
    rfl
  refine pure_ (i := 3) (N := some 27) (v := ?_) (a' := ?_) #[true, true, true, true, false, false, false, false, false, false, false, false, false] rfl rfl (by kernel_rfl) (fun _ _ _ h => h) (Or.inl ⟨by rfl, ?_⟩) ?_ ?_
  rotate_left
  · intro w'
    go_simp
    with_reducible rfl
  rotate_left
  · simp only [Act.put, List.setIfInBounds_toArray, List.set_cons_zero, List.set_cons_succ, i64_w, i32_w]
    rfl
  refine take_ (i := 5) (N := some 29) (v := ?_) (a' := ?_) #[true, true, true, true, false, true, false, false, false, false, false, false, false] rfl rfl (by kernel_rfl) (fun _ _ _ h => h) (Or.inl ⟨by rfl, ?_⟩) hHeld ?_ ?_
  rotate_left
  · rintro w' hHeld'
    have hHeld'' := hHeld'
    (try obtain ⟨r0_, r1_⟩ := hHeld')
    (try obtain ⟨r1_, r2_⟩ := r1_)
    (try obtain ⟨r2_, r3_⟩ := r2_)
    (try obtain ⟨r3_, r4_⟩ := r3_)
    (try obtain ⟨r4_, r5_⟩ := r4_)
    (try obtain ⟨r5_, r6_⟩ := r5_)
    (try obtain ⟨r6_, r7_⟩ := r6_)
    (try obtain ⟨r7_, r8_⟩ := r7_)
    (try obtain ⟨r8_, r9_⟩ := r8_)
    go_simp
    with_reducible rfl
  rotate_left
  · simp only [Act.put, List.setIfInBounds_toArray, List.set_cons_zero, List.set_cons_succ, i64_w, i32_w]
    rfl
  refine pure_ (i := 6) (N := some 30) (v := ?_) (a' := ?_) #[true, true, true, true, false, true, true, false, false, false, false, false, false] rfl rfl (by kernel_rfl) (fun _ _ _ h => h) (Or.inl ⟨by rfl, ?_⟩) ?_ ?_
  rotate_left
  · intro w'
    go_simp
    with_reducible rfl
  rotate_left
  · simp only [Act.put, List.setIfInBounds_toArray, List.set_cons_zero, List.set_cons_succ, i64_w, i32_w]
    rfl
  refine pure_ (i := 7) (N := some 31) (v := ?_) (a' := ?_) #[true, true, true, true, false, true, true, true, false, false, false, false, false] rfl rfl (by kernel_rfl) (fun _ _ _ h => h) (Or.inl ⟨by rfl, ?_⟩) ?_ ?_
  rotate_left
  · intro w'
    go_simp
    with_reducible rfl
  rotate_left
  · simp only [Act.put, List.setIfInBounds_toArray, List.set_cons_zero, List.set_cons_succ, i64_w, i32_w]
    rfl
  refine pure_ (i := 8) (N := some 32) (v := ?_) (a' := ?_) #[true, true, true, true, false, true, true, true, true, false, false, false, false] rfl rfl (by kernel_rfl) (fun _ _ _ h => h) (Or.inl ⟨by rfl, ?_⟩) ?_ ?_
  rotate_left
  · intro w'
    go_simp
    with_reducible rfl
  rotate_left
  · simp only [Act.put, List.setIfInBounds_toArray, List.set_cons_zero, List.set_cons_succ, i64_w, i32_w]
    rfl
  refine one_ (i := 4) (N := some 28) #[true, true, true, true, true, true, true, true, true, false, false, false, false] rfl rfl (by kernel_rfl) (by decide) (fun K hSh => ?_)
  refine goes_ Try.func16 (by kernel_rfl) rfl #[ptr mb] (by rfl) rfl rfl (by (try simp only [List.map_toArray, List.map_cons, List.map_nil]); rfl) ?_
  refine HLIVE.out.mono ?_
  rintro e w3 ⟨rfl, rfl⟩
  refine ⟨_, rfl, ?_⟩
  refine hSh.out _ _ hHeld ?_
  clear hHeld
  intro hHeld
  refine norm_ (a' := ?_) ?_ ?_
  rotate_left
  · simp only [Act.put, List.setIfInBounds_toArray, List.set_cons_zero, List.set_cons_succ, i64_w, i32_w]
    rfl
  refine pure_ (i := 9) (N := some 33) (v := ?_) (a' := ?_) #[true, true, true, true, true, true, true, true, true, true, false, false, false] rfl rfl (by kernel_rfl) (fun _ _ _ h => h) (Or.inl ⟨by rfl, ?_⟩) ?_ ?_
  rotate_left
  · intro w'
    go_simp
    with_reducible rfl
  rotate_left
  · simp only [Act.put, List.setIfInBounds_toArray, List.set_cons_zero, List.set_cons_succ, i64_w, i32_w]
    rfl
  refine pure_ (i := 10) (N := some 34) (v := ?_) (a' := ?_) #[true, true, true, true, true, true, true, true, true, true, true, false, false] rfl rfl (by kernel_rfl) (fun _ _ _ h => h) (Or.inl ⟨by rfl, ?_⟩) ?_ ?_
  rotate_left
  · intro w'
    go_simp
    with_reducible rfl
  rotate_left
  · simp only [Act.put, List.setIfInBounds_toArray, List.set_cons_zero, List.set_cons_succ, i64_w, i32_w]
    rfl
  refine one_ (i := 11) (N := none) #[true, true, true, true, true, true, true, true, true, true, true, true, false] rfl rfl (by kernel_rfl) (by decide) (fun K hSh => ?_)
  refine skip_ (w1 := set7 (W4.drewN 1) (w.heap.size + 1) (ptr mb) (.int .i64 H) (.string ⟨#[107]⟩) (.int .i64 t0) (.slice AN 2 kN) (.slice A1 vs.length c1) (.slice A2 hs.length c2)) (by rfl) rfl (by go_simp) ?_
  refine hSh.out _ _ ((by rw [HX1.out]; exact HX.out)) ?_
  clear hHeld
  intro hHeld
  rw [HX1.out]
  refine pure_ (i := 12) (N := some 3) (v := ?_) (a' := ?_) #[true, true, true, true, true, true, true, true, true, true, true, true, true] rfl rfl (by kernel_rfl) (fun _ _ _ h => h) (Or.inl ⟨by rfl, ?_⟩) ?_ ?_
  rotate_left
  · intro w'
    go_simp
    with_reducible rfl
  rotate_left
  · simp only [Act.put, List.setIfInBounds_toArray, List.set_cons_zero, List.set_cons_succ, i64_w, i32_w]
    rfl
  refine done_ (by kernel_rfl) ?_
  clear hHeld HX
  obtain ⟨u0, u1, u2, u3, u4, u5, u6⟩ := HU.out
  go_wp2_with fail
  exact bodyPost_ret (v := .tuple #[.agg (yardV mb H ⟨#[107]⟩ t0 (.slice AN 2 kN) (.slice A1 vs.length c1) (.slice A2 hs.length c2)), .bool true]) (by simp [results, Try.results19, go_sem, u0, u1, u2, u3, u4, u5, u6]) rfl FIN.out
end
end Go.Proofs.Ytcfbjcadpcedhaa.Mem
