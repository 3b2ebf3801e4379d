/- Ages and nodes, by a port that asks memory at once: Take, Load. -/
import Derived.Test.YtcfbjcadpcedhaaSt0
import Derived.Test.YtcfbjcadpcedhaaView0
namespace Go.Proofs.Ytcfbjcadpcedhaa.Mem
open Go.RowKit Go.Proofs.YtcfbjcadpcedhaaW.PrintWords Go.Proofs.YtcfbjcadpcedhaaW.PrintLast Go.Proofs.Ytcfbjcadpcedhaa.Tags
set_option linter.unusedVariables false
set_option linter.unusedSimpArgs false
section
variable {w0 w w' : World} {pb mb cb : Nat} {m m' : M}
/-- An age, of a revision that has nothing but a version. -/
structure Ag where
  ver : Int
  dead : Bool
  prev : Int
/-- A node. -/
structure Nd where
  low : ByteArray
  head : Int
  A : Option Addr
  n : Nat
  k : Nat
abbrev Ag.v (a : Ag) : Value := .agg #[.int .i64 a.ver, .int .i64 0, .string ⟨#[]⟩, .string ⟨#[]⟩, .bool false, .bool a.dead, .slice none 0 0, .slice none 0 0, .slice none 0 0, .slice none 0 0, .int .i64 a.prev]
abbrev Ag.z : Ag := ⟨0, false, 0⟩
abbrev Nd.v (a : Nd) : Value := .agg #[.string a.low, .int .i64 a.head, .slice a.A a.n a.k]
abbrev Nd.z : Nd := ⟨⟨#[]⟩, 0, none, 0, 0⟩
theorem box3 {g : Nat} {t : TypeId} {v0 v1 v2 : Value} {w : World} (h : w.heap[g]? = some (.cells #[v0, v1, v2] t (0, 0))) : w.cell? ⟨g, 0, none⟩ = some v0 ∧ w.cell? ⟨g, 1, none⟩ = some v1 ∧ w.cell? ⟨g, 2, none⟩ = some v2 :=
  ⟨(blk_cell h 0).trans rfl, (blk_cell h 1).trans rfl, (blk_cell h 2).trans rfl⟩
theorem froz3 {g : Nat} {t : TypeId} {v0 v1 v2 : Value} {w : World} (h : w.heap[g]? = some (.cells #[v0, v1, v2] t (0, 0))) : w.frozen? ⟨g, 0, none⟩ = false ∧ w.frozen? ⟨g, 1, none⟩ = false ∧ w.frozen? ⟨g, 2, none⟩ = false :=
  ⟨blk_frozen h 0, blk_frozen h 1, blk_frozen h 2⟩
abbrev set3 (w : World) (b : Nat) (v0 v1 v2 : Value) : World := (((w.setCell ⟨b, 0, none⟩ v0).setCell ⟨b, 1, none⟩ v1).setCell ⟨b, 2, none⟩ v2)
theorem only3 (w : World) (b : Nat) (v0 v1 v2 : Value) : Only w (set3 w b v0 v1 v2) b := ((Only.set w ⟨b, 0, none⟩ v0).trans (Only.set _ ⟨b, 1, none⟩ v1)).trans (Only.set _ ⟨b, 2, none⟩ v2)
theorem blk3 {b : Nat} {t : TypeId} {u0 u1 u2 : Value} (h : w.heap[b]? = some (.cells #[u0, u1, u2] t (0, 0))) (v0 v1 v2 : Value) : (set3 w b v0 v1 v2).heap[b]? = some (.cells #[v0, v1, v2] t (0, 0)) := by
  have h0 : (w.setCell ⟨b, 0, none⟩ v0).heap[b]? = some (.cells #[v0, u1, u2] t (0, 0)) := blk_put h 0 v0 rfl
  have h1 : ((w.setCell ⟨b, 0, none⟩ v0).setCell ⟨b, 1, none⟩ v1).heap[b]? = some (.cells #[v0, v1, u2] t (0, 0)) := blk_put h0 1 v1 rfl
  have h2 : (((w.setCell ⟨b, 0, none⟩ v0).setCell ⟨b, 1, none⟩ v1).setCell ⟨b, 2, none⟩ v2).heap[b]? = some (.cells #[v0, v1, v2] t (0, 0)) := blk_put h1 2 v2 rfl
  exact h2
theorem box11 {g : Nat} {t : TypeId} {v0 v1 v2 v3 v4 v5 v6 v7 v8 v9 v10 : Value} {w : World} (h : w.heap[g]? = some (.cells #[v0, v1, v2, v3, v4, v5, v6, v7, v8, v9, v10] t (0, 0))) : w.cell? ⟨g, 0, none⟩ = some v0 ∧ w.cell? ⟨g, 1, none⟩ = some v1 ∧ w.cell? ⟨g, 2, none⟩ = some v2 ∧ w.cell? ⟨g, 3, none⟩ = some v3 ∧ w.cell? ⟨g, 4, none⟩ = some v4 ∧ w.cell? ⟨g, 5, none⟩ = some v5 ∧ w.cell? ⟨g, 6, none⟩ = some v6 ∧ w.cell? ⟨g, 7, none⟩ = some v7 ∧ w.cell? ⟨g, 8, none⟩ = some v8 ∧ w.cell? ⟨g, 9, none⟩ = some v9 ∧ w.cell? ⟨g, 10, none⟩ = some v10 :=
  ⟨(blk_cell h 0).trans rfl, (blk_cell h 1).trans rfl, (blk_cell h 2).trans rfl, (blk_cell h 3).trans rfl, (blk_cell h 4).trans rfl, (blk_cell h 5).trans rfl, (blk_cell h 6).trans rfl, (blk_cell h 7).trans rfl, (blk_cell h 8).trans rfl, (blk_cell h 9).trans rfl, (blk_cell h 10).trans rfl⟩
theorem froz11 {g : Nat} {t : TypeId} {v0 v1 v2 v3 v4 v5 v6 v7 v8 v9 v10 : Value} {w : World} (h : w.heap[g]? = some (.cells #[v0, v1, v2, v3, v4, v5, v6, v7, v8, v9, v10] t (0, 0))) : w.frozen? ⟨g, 0, none⟩ = false ∧ w.frozen? ⟨g, 1, none⟩ = false ∧ w.frozen? ⟨g, 2, none⟩ = false ∧ w.frozen? ⟨g, 3, none⟩ = false ∧ w.frozen? ⟨g, 4, none⟩ = false ∧ w.frozen? ⟨g, 5, none⟩ = false ∧ w.frozen? ⟨g, 6, none⟩ = false ∧ w.frozen? ⟨g, 7, none⟩ = false ∧ w.frozen? ⟨g, 8, none⟩ = false ∧ w.frozen? ⟨g, 9, none⟩ = false ∧ w.frozen? ⟨g, 10, none⟩ = false :=
  ⟨blk_frozen h 0, blk_frozen h 1, blk_frozen h 2, blk_frozen h 3, blk_frozen h 4, blk_frozen h 5, blk_frozen h 6, blk_frozen h 7, blk_frozen h 8, blk_frozen h 9, blk_frozen h 10⟩
abbrev set11 (w : World) (b : Nat) (v0 v1 v2 v3 v4 v5 v6 v7 v8 v9 v10 : Value) : World := (((((((((((w.setCell ⟨b, 0, none⟩ v0).setCell ⟨b, 1, none⟩ v1).setCell ⟨b, 2, none⟩ v2).setCell ⟨b, 3, none⟩ v3).setCell ⟨b, 4, none⟩ v4).setCell ⟨b, 5, none⟩ v5).setCell ⟨b, 6, none⟩ v6).setCell ⟨b, 7, none⟩ v7).setCell ⟨b, 8, none⟩ v8).setCell ⟨b, 9, none⟩ v9).setCell ⟨b, 10, none⟩ v10)
theorem only11 (w : World) (b : Nat) (v0 v1 v2 v3 v4 v5 v6 v7 v8 v9 v10 : Value) : Only w (set11 w b v0 v1 v2 v3 v4 v5 v6 v7 v8 v9 v10) b := ((((((((((Only.set w ⟨b, 0, none⟩ v0).trans (Only.set _ ⟨b, 1, none⟩ v1)).trans (Only.set _ ⟨b, 2, none⟩ v2)).trans (Only.set _ ⟨b, 3, none⟩ v3)).trans (Only.set _ ⟨b, 4, none⟩ v4)).trans (Only.set _ ⟨b, 5, none⟩ v5)).trans (Only.set _ ⟨b, 6, none⟩ v6)).trans (Only.set _ ⟨b, 7, none⟩ v7)).trans (Only.set _ ⟨b, 8, none⟩ v8)).trans (Only.set _ ⟨b, 9, none⟩ v9)).trans (Only.set _ ⟨b, 10, none⟩ v10)
theorem blk11 {b : Nat} {t : TypeId} {u0 u1 u2 u3 u4 u5 u6 u7 u8 u9 u10 : Value} (h : w.heap[b]? = some (.cells #[u0, u1, u2, u3, u4, u5, u6, u7, u8, u9, u10] t (0, 0))) (v0 v1 v2 v3 v4 v5 v6 v7 v8 v9 v10 : Value) : (set11 w b v0 v1 v2 v3 v4 v5 v6 v7 v8 v9 v10).heap[b]? = some (.cells #[v0, v1, v2, v3, v4, v5, v6, v7, v8, v9, v10] t (0, 0)) := by
  have h0 : (w.setCell ⟨b, 0, none⟩ v0).heap[b]? = some (.cells #[v0, u1, u2, u3, u4, u5, u6, u7, u8, u9, u10] t (0, 0)) := blk_put h 0 v0 rfl
  have h1 : ((w.setCell ⟨b, 0, none⟩ v0).setCell ⟨b, 1, none⟩ v1).heap[b]? = some (.cells #[v0, v1, u2, u3, u4, u5, u6, u7, u8, u9, u10] t (0, 0)) := blk_put h0 1 v1 rfl
  have h2 : (((w.setCell ⟨b, 0, none⟩ v0).setCell ⟨b, 1, none⟩ v1).setCell ⟨b, 2, none⟩ v2).heap[b]? = some (.cells #[v0, v1, v2, u3, u4, u5, u6, u7, u8, u9, u10] t (0, 0)) := blk_put h1 2 v2 rfl
  have h3 : ((((w.setCell ⟨b, 0, none⟩ v0).setCell ⟨b, 1, none⟩ v1).setCell ⟨b, 2, none⟩ v2).setCell ⟨b, 3, none⟩ v3).heap[b]? = some (.cells #[v0, v1, v2, v3, u4, u5, u6, u7, u8, u9, u10] t (0, 0)) := blk_put h2 3 v3 rfl
  have h4 : (((((w.setCell ⟨b, 0, none⟩ v0).setCell ⟨b, 1, none⟩ v1).setCell ⟨b, 2, none⟩ v2).setCell ⟨b, 3, none⟩ v3).setCell ⟨b, 4, none⟩ v4).heap[b]? = some (.cells #[v0, v1, v2, v3, v4, u5, u6, u7, u8, u9, u10] t (0, 0)) := blk_put h3 4 v4 rfl
  have h5 : ((((((w.setCell ⟨b, 0, none⟩ v0).setCell ⟨b, 1, none⟩ v1).setCell ⟨b, 2, none⟩ v2).setCell ⟨b, 3, none⟩ v3).setCell ⟨b, 4, none⟩ v4).setCell ⟨b, 5, none⟩ v5).heap[b]? = some (.cells #[v0, v1, v2, v3, v4, v5, u6, u7, u8, u9, u10] t (0, 0)) := blk_put h4 5 v5 rfl
  have h6 : (((((((w.setCell ⟨b, 0, none⟩ v0).setCell ⟨b, 1, none⟩ v1).setCell ⟨b, 2, none⟩ v2).setCell ⟨b, 3, none⟩ v3).setCell ⟨b, 4, none⟩ v4).setCell ⟨b, 5, none⟩ v5).setCell ⟨b, 6, none⟩ v6).heap[b]? = some (.cells #[v0, v1, v2, v3, v4, v5, v6, u7, u8, u9, u10] t (0, 0)) := blk_put h5 6 v6 rfl
  have h7 : ((((((((w.setCell ⟨b, 0, none⟩ v0).setCell ⟨b, 1, none⟩ v1).setCell ⟨b, 2, none⟩ v2).setCell ⟨b, 3, none⟩ v3).setCell ⟨b, 4, none⟩ v4).setCell ⟨b, 5, none⟩ v5).setCell ⟨b, 6, none⟩ v6).setCell ⟨b, 7, none⟩ v7).heap[b]? = some (.cells #[v0, v1, v2, v3, v4, v5, v6, v7, u8, u9, u10] t (0, 0)) := blk_put h6 7 v7 rfl
  have h8 : (((((((((w.setCell ⟨b, 0, none⟩ v0).setCell ⟨b, 1, none⟩ v1).setCell ⟨b, 2, none⟩ v2).setCell ⟨b, 3, none⟩ v3).setCell ⟨b, 4, none⟩ v4).setCell ⟨b, 5, none⟩ v5).setCell ⟨b, 6, none⟩ v6).setCell ⟨b, 7, none⟩ v7).setCell ⟨b, 8, none⟩ v8).heap[b]? = some (.cells #[v0, v1, v2, v3, v4, v5, v6, v7, v8, u9, u10] t (0, 0)) := blk_put h7 8 v8 rfl
  have h9 : ((((((((((w.setCell ⟨b, 0, none⟩ v0).setCell ⟨b, 1, none⟩ v1).setCell ⟨b, 2, none⟩ v2).setCell ⟨b, 3, none⟩ v3).setCell ⟨b, 4, none⟩ v4).setCell ⟨b, 5, none⟩ v5).setCell ⟨b, 6, none⟩ v6).setCell ⟨b, 7, none⟩ v7).setCell ⟨b, 8, none⟩ v8).setCell ⟨b, 9, none⟩ v9).heap[b]? = some (.cells #[v0, v1, v2, v3, v4, v5, v6, v7, v8, v9, u10] t (0, 0)) := blk_put h8 9 v9 rfl
  have h10 : (((((((((((w.setCell ⟨b, 0, none⟩ v0).setCell ⟨b, 1, none⟩ v1).setCell ⟨b, 2, none⟩ v2).setCell ⟨b, 3, none⟩ v3).setCell ⟨b, 4, none⟩ v4).setCell ⟨b, 5, none⟩ v5).setCell ⟨b, 6, none⟩ v6).setCell ⟨b, 7, none⟩ v7).setCell ⟨b, 8, none⟩ v8).setCell ⟨b, 9, none⟩ v9).setCell ⟨b, 10, none⟩ v10).heap[b]? = some (.cells #[v0, v1, v2, v3, v4, v5, v6, v7, v8, v9, v10] t (0, 0)) := blk_put h9 10 v10 rfl
  exact h10
theorem ta_ag (a : Ag) (w : World) : (Instr.typeAssert (.iface 52 a.v) 20 52 true).run Try.prog w = .ok (.tuple #[a.v, .bool true]) w := by kernel_rfl
theorem zero_ag (w : World) : (zeroValue 52).run Try.prog w = .ok Ag.z.v w := by kernel_rfl
theorem ta_not_ag {T : TypeId} (u : Value) (hT : T ≠ 52) (w : World) : (Instr.typeAssert (.iface T u) 20 52 true).run Try.prog w = .ok (.tuple #[Ag.z.v, .bool false]) w := by
  have hu := Try.underlying52
  have hz := zero_ag w
  simp [Instr.typeAssert, run_underlying hu, hT, hz]
theorem ta_nil_ag (w : World) : (Instr.typeAssert .nilIface 20 52 true).run Try.prog w = .ok (.tuple #[Ag.z.v, .bool false]) w := by kernel_rfl
set_option maxHeartbeats 3200000 in
set_option maxRecDepth 100000 in
theorem block_ag_ok (h : St w0 w pb mb cb m) {x : Int} {a : Ag} (hv : m.val x = some (.iface 52 a.v)) : Calls Try.prog 54 #[ptr pb, .int .i64 x] w (Endp w0 w pb mb cb (.tuple #[a.v, .int .i64 0]) m.tick) := by
  obtain ⟨W, hW⟩ : ∃ W : World, W = (w.alloc (.cells #[.int .i64 0, .int .i64 0, .string ⟨#[]⟩, .string ⟨#[]⟩, .bool false, .bool false, .slice none 0 0, .slice none 0 0, .slice none 0 0, .slice none 0 0, .int .i64 0] 52)).alloc (.cells #[.int .i64 0, .int .i64 0, .string ⟨#[]⟩, .string ⟨#[]⟩, .bool false, .bool false, .slice none 0 0, .slice none 0 0, .slice none 0 0, .slice none 0 0, .int .i64 0] 52) := ⟨_, rfl⟩
  have hb : Below w.heap.size w W := hW ▸ below_alloc (below_alloc (Below.refl _ _) _) _
  have hK4 : W.heap[w.heap.size]? = some (.cells #[.int .i64 0, .int .i64 0, .string ⟨#[]⟩, .string ⟨#[]⟩, .bool false, .bool false, .slice none 0 0, .slice none 0 0, .slice none 0 0, .slice none 0 0, .int .i64 0] 52 (0, 0)) := hW ▸ blk_alloc (blk_new w _) _
  have hK6 : W.heap[w.heap.size + 1]? = some (.cells #[.int .i64 0, .int .i64 0, .string ⟨#[]⟩, .string ⟨#[]⟩, .bool false, .bool false, .slice none 0 0, .slice none 0 0, .slice none 0 0, .slice none 0 0, .int .i64 0] 52 (0, 0)) := by
    have e : w.heap.size + 1 = (w.alloc (.cells #[.int .i64 0, .int .i64 0, .string ⟨#[]⟩, .string ⟨#[]⟩, .bool false, .bool false, .slice none 0 0, .slice none 0 0, .slice none 0 0, .slice none 0 0, .int .i64 0] 52)).heap.size := by simp
    rw [e]
    exact hW ▸ blk_new _ _
  have h1 := h.below hb
  have hbw : w0.heap.size ≤ w.heap.size := h.F.size
  have HL := Lib.hid (load_val hv (by decide))
  clear hv
  have HW := Lib.hid hW
  have HB := Lib.hid hb
  clear hW hb h
  go_enter Try.func54, Try.ntmps54
  go_upto_region 2 with fail
  rw [← HW.out]
  clear HW
  go_wp2_with fail
  refine (qLoad h1 x).mono ?_
  rw [HL.out]
  rintro e W2 ⟨rfl, h2, hF⟩
  have hK42 := hF.blk h1.A hK4 (by decide) (by decide)
  have hK62 := hF.blk h1.A hK6 (by decide) (by decide)
  have HF := Lib.hid ((Fr.of_below HB.out mb cb).trans hF)
  clear hF h1 hK4 hK6
  have hta := ta_ag a
  obtain ⟨W3, hW3⟩ : ∃ W3 : World, W3 = W2.alloc (.cells #[.int .i64 a.ver, .int .i64 0, .string ⟨#[]⟩, .string ⟨#[]⟩, .bool false, .bool a.dead, .slice none 0 0, .slice none 0 0, .slice none 0 0, .slice none 0 0, .int .i64 a.prev] 52) := ⟨_, rfl⟩
  have HK4 : Hid (W3.heap[w.heap.size]? = some (.cells #[.int .i64 0, .int .i64 0, .string ⟨#[]⟩, .string ⟨#[]⟩, .bool false, .bool false, .slice none 0 0, .slice none 0 0, .slice none 0 0, .slice none 0 0, .int .i64 0] 52 (0, 0))) := Lib.hid (hW3 ▸ blk_alloc hK42 _)
  have HK6 : Hid (W3.heap[w.heap.size + 1]? = some (.cells #[.int .i64 0, .int .i64 0, .string ⟨#[]⟩, .string ⟨#[]⟩, .bool false, .bool false, .slice none 0 0, .slice none 0 0, .slice none 0 0, .slice none 0 0, .int .i64 0] 52 (0, 0))) := Lib.hid (hW3 ▸ blk_alloc hK62 _)
  have HK9 : Hid (W3.heap[W2.heap.size]? = some (.cells #[.int .i64 a.ver, .int .i64 0, .string ⟨#[]⟩, .string ⟨#[]⟩, .bool false, .bool a.dead, .slice none 0 0, .slice none 0 0, .slice none 0 0, .slice none 0 0, .int .i64 a.prev] 52 (0, 0))) := Lib.hid (hW3 ▸ blk_new W2 _)
  have h3 : St w0 W3 pb mb cb m.tick := hW3 ▸ h2.alloc _
  have HF3 : Hid (Fr w W3 mb cb) := Lib.hid (hW3 ▸ HF.out.alloc _)
  have HW3 := Lib.hid hW3
  clear hK42 hK62 h2 HF hW3
  obtain ⟨p0, p1, p2, p3, p4, p5, p6, p7, p8, p9, p10⟩ := box11 HK6.out
  obtain ⟨q0, q1, q2, q3, q4, q5, q6, q7, q8, q9, q10⟩ := box11 HK9.out
  obtain ⟨y0, y1, y2, y3, y4, y5, y6, y7, y8, y9, y10⟩ := froz11 HK4.out
  obtain ⟨k0, k1, k2, k3, k4, k5, k6, k7, k8, k9, k10⟩ := box11 HK4.out
  go_upto_region 6 with fail
  rw [← HW3.out]
  clear HW3
  go_wp2_with fail
  have hk := blk11 HK4.out (.int .i64 a.ver) (.int .i64 0) (.string ⟨#[]⟩) (.string ⟨#[]⟩) (.bool false) (.bool a.dead) (.slice none 0 0) (.slice none 0 0) (.slice none 0 0) (.slice none 0 0) (.int .i64 a.prev)
  have hon := only11 W3 w.heap.size (.int .i64 a.ver) (.int .i64 0) (.string ⟨#[]⟩) (.string ⟨#[]⟩) (.bool false) (.bool a.dead) (.slice none 0 0) (.slice none 0 0) (.slice none 0 0) (.slice none 0 0) (.int .i64 a.prev)
  obtain ⟨u0, u1, u2, u3, u4, u5, u6, u7, u8, u9, u10⟩ := box11 hk
  have FIN := Lib.hid (show Endp w0 w pb mb cb (.tuple #[a.v, .int .i64 0]) m.tick (.returned (.tuple #[a.v, .int .i64 0])) _ from ⟨rfl, h3.only hon HK4.out (by decide) (by decide) (by decide) hbw, HF3.out.only hon (Nat.le_refl _)⟩)
  clear hk hon
  exact bodyPost_ret (v := .tuple #[a.v, .int .i64 0]) (by simp [results, Try.results54, go_sem, u0, u1, u2, u3, u4, u5, u6, u7, u8, u9, u10, Ag.v, Ag.z]) rfl FIN.out
set_option maxHeartbeats 3200000 in
set_option maxRecDepth 100000 in
theorem block_ag_num (h : St w0 w pb mb cb m) {x : Int} {n : Int} (hv : m.val x = some (number n)) : Calls Try.prog 54 #[ptr pb, .int .i64 x] w (Endp w0 w pb mb cb (.tuple #[Ag.z.v, .int .i64 6]) m.tick) := by
  obtain ⟨W, hW⟩ : ∃ W : World, W = (w.alloc (.cells #[.int .i64 0, .int .i64 0, .string ⟨#[]⟩, .string ⟨#[]⟩, .bool false, .bool false, .slice none 0 0, .slice none 0 0, .slice none 0 0, .slice none 0 0, .int .i64 0] 52)).alloc (.cells #[.int .i64 0, .int .i64 0, .string ⟨#[]⟩, .string ⟨#[]⟩, .bool false, .bool false, .slice none 0 0, .slice none 0 0, .slice none 0 0, .slice none 0 0, .int .i64 0] 52) := ⟨_, rfl⟩
  have hb : Below w.heap.size w W := hW ▸ below_alloc (below_alloc (Below.refl _ _) _) _
  have hK4 : W.heap[w.heap.size]? = some (.cells #[.int .i64 0, .int .i64 0, .string ⟨#[]⟩, .string ⟨#[]⟩, .bool false, .bool false, .slice none 0 0, .slice none 0 0, .slice none 0 0, .slice none 0 0, .int .i64 0] 52 (0, 0)) := hW ▸ blk_alloc (blk_new w _) _
  have hK6 : W.heap[w.heap.size + 1]? = some (.cells #[.int .i64 0, .int .i64 0, .string ⟨#[]⟩, .string ⟨#[]⟩, .bool false, .bool false, .slice none 0 0, .slice none 0 0, .slice none 0 0, .slice none 0 0, .int .i64 0] 52 (0, 0)) := by
    have e : w.heap.size + 1 = (w.alloc (.cells #[.int .i64 0, .int .i64 0, .string ⟨#[]⟩, .string ⟨#[]⟩, .bool false, .bool false, .slice none 0 0, .slice none 0 0, .slice none 0 0, .slice none 0 0, .int .i64 0] 52)).heap.size := by simp
    rw [e]
    exact hW ▸ blk_new _ _
  have h1 := h.below hb
  have hbw : w0.heap.size ≤ w.heap.size := h.F.size
  have HL := Lib.hid (load_num hv)
  clear hv
  have HW := Lib.hid hW
  have HB := Lib.hid hb
  clear hW hb h
  go_enter Try.func54, Try.ntmps54
  go_upto_region 2 with fail
  rw [← HW.out]
  clear HW
  go_wp2_with fail
  refine (qLoad h1 x).mono ?_
  rw [HL.out]
  rintro e W2 ⟨rfl, h2, hF⟩
  have hK42 := hF.blk h1.A hK4 (by decide) (by decide)
  have hK62 := hF.blk h1.A hK6 (by decide) (by decide)
  have HF := Lib.hid ((Fr.of_below HB.out mb cb).trans hF)
  clear hF h1 hK4 hK6
  have HK4 := Lib.hid hK42
  obtain ⟨p0, p1, p2, p3, p4, p5, p6, p7, p8, p9, p10⟩ := box11 hK62
  obtain ⟨y0, y1, y2, y3, y4, y5, y6, y7, y8, y9, y10⟩ := froz11 HK4.out
  obtain ⟨k0, k1, k2, k3, k4, k5, k6, k7, k8, k9, k10⟩ := box11 HK4.out
  clear hK42 hK62
  go_wp2_with fail
  have hk := blk11 HK4.out (.int .i64 0) (.int .i64 0) (.string ⟨#[]⟩) (.string ⟨#[]⟩) (.bool false) (.bool false) (.slice none 0 0) (.slice none 0 0) (.slice none 0 0) (.slice none 0 0) (.int .i64 0)
  have hon := only11 W2 w.heap.size (.int .i64 0) (.int .i64 0) (.string ⟨#[]⟩) (.string ⟨#[]⟩) (.bool false) (.bool false) (.slice none 0 0) (.slice none 0 0) (.slice none 0 0) (.slice none 0 0) (.int .i64 0)
  obtain ⟨u0, u1, u2, u3, u4, u5, u6, u7, u8, u9, u10⟩ := box11 hk
  have FIN := Lib.hid (show Endp w0 w pb mb cb (.tuple #[Ag.z.v, .int .i64 6]) m.tick (.returned (.tuple #[Ag.z.v, .int .i64 6])) _ from ⟨rfl, h2.only hon HK4.out (by decide) (by decide) (by decide) hbw, HF.out.only hon (Nat.le_refl _)⟩)
  clear hk hon
  exact bodyPost_ret (v := .tuple #[Ag.z.v, .int .i64 6]) (by simp [results, Try.results54, go_sem, u0, u1, u2, u3, u4, u5, u6, u7, u8, u9, u10, Ag.v, Ag.z]) rfl FIN.out
set_option maxHeartbeats 3200000 in
set_option maxRecDepth 100000 in
theorem block_ag_other (h : St w0 w pb mb cb m) {x : Int} {T : TypeId} {u : Value} (hv : m.val x = some (.iface T u)) (hT1 : T ≠ 117) (hT2 : T ≠ 52) : Calls Try.prog 54 #[ptr pb, .int .i64 x] w (Endp w0 w pb mb cb (.tuple #[Ag.z.v, .int .i64 6]) m.tick) := by
  obtain ⟨W, hW⟩ : ∃ W : World, W = (w.alloc (.cells #[.int .i64 0, .int .i64 0, .string ⟨#[]⟩, .string ⟨#[]⟩, .bool false, .bool false, .slice none 0 0, .slice none 0 0, .slice none 0 0, .slice none 0 0, .int .i64 0] 52)).alloc (.cells #[.int .i64 0, .int .i64 0, .string ⟨#[]⟩, .string ⟨#[]⟩, .bool false, .bool false, .slice none 0 0, .slice none 0 0, .slice none 0 0, .slice none 0 0, .int .i64 0] 52) := ⟨_, rfl⟩
  have hb : Below w.heap.size w W := hW ▸ below_alloc (below_alloc (Below.refl _ _) _) _
  have hK4 : W.heap[w.heap.size]? = some (.cells #[.int .i64 0, .int .i64 0, .string ⟨#[]⟩, .string ⟨#[]⟩, .bool false, .bool false, .slice none 0 0, .slice none 0 0, .slice none 0 0, .slice none 0 0, .int .i64 0] 52 (0, 0)) := hW ▸ blk_alloc (blk_new w _) _
  have hK6 : W.heap[w.heap.size + 1]? = some (.cells #[.int .i64 0, .int .i64 0, .string ⟨#[]⟩, .string ⟨#[]⟩, .bool false, .bool false, .slice none 0 0, .slice none 0 0, .slice none 0 0, .slice none 0 0, .int .i64 0] 52 (0, 0)) := by
    have e : w.heap.size + 1 = (w.alloc (.cells #[.int .i64 0, .int .i64 0, .string ⟨#[]⟩, .string ⟨#[]⟩, .bool false, .bool false, .slice none 0 0, .slice none 0 0, .slice none 0 0, .slice none 0 0, .int .i64 0] 52)).heap.size := by simp
    rw [e]
    exact hW ▸ blk_new _ _
  have h1 := h.below hb
  have hbw : w0.heap.size ≤ w.heap.size := h.F.size
  have HL := Lib.hid (load_val hv hT1)
  have HT := Lib.hid hT2
  clear hv hT1 hT2
  have HW := Lib.hid hW
  have HB := Lib.hid hb
  clear hW hb h
  go_enter Try.func54, Try.ntmps54
  go_upto_region 2 with fail
  rw [← HW.out]
  clear HW
  go_wp2_with fail
  refine (qLoad h1 x).mono ?_
  rw [HL.out]
  rintro e W2 ⟨rfl, h2, hF⟩
  have hK42 := hF.blk h1.A hK4 (by decide) (by decide)
  have hK62 := hF.blk h1.A hK6 (by decide) (by decide)
  have HF := Lib.hid ((Fr.of_below HB.out mb cb).trans hF)
  clear hF h1 hK4 hK6
  have hta := ta_not_ag u HT.out
  obtain ⟨W3, hW3⟩ : ∃ W3 : World, W3 = W2.alloc (.cells #[.int .i64 0, .int .i64 0, .string ⟨#[]⟩, .string ⟨#[]⟩, .bool false, .bool false, .slice none 0 0, .slice none 0 0, .slice none 0 0, .slice none 0 0, .int .i64 0] 52) := ⟨_, rfl⟩
  have HK4 : Hid (W3.heap[w.heap.size]? = some (.cells #[.int .i64 0, .int .i64 0, .string ⟨#[]⟩, .string ⟨#[]⟩, .bool false, .bool false, .slice none 0 0, .slice none 0 0, .slice none 0 0, .slice none 0 0, .int .i64 0] 52 (0, 0))) := Lib.hid (hW3 ▸ blk_alloc hK42 _)
  have HK6 : Hid (W3.heap[w.heap.size + 1]? = some (.cells #[.int .i64 0, .int .i64 0, .string ⟨#[]⟩, .string ⟨#[]⟩, .bool false, .bool false, .slice none 0 0, .slice none 0 0, .slice none 0 0, .slice none 0 0, .int .i64 0] 52 (0, 0))) := Lib.hid (hW3 ▸ blk_alloc hK62 _)
  have HK9 : Hid (W3.heap[W2.heap.size]? = some (.cells #[.int .i64 0, .int .i64 0, .string ⟨#[]⟩, .string ⟨#[]⟩, .bool false, .bool false, .slice none 0 0, .slice none 0 0, .slice none 0 0, .slice none 0 0, .int .i64 0] 52 (0, 0))) := Lib.hid (hW3 ▸ blk_new W2 _)
  have h3 : St w0 W3 pb mb cb m.tick := hW3 ▸ h2.alloc _
  have HF3 : Hid (Fr w W3 mb cb) := Lib.hid (hW3 ▸ HF.out.alloc _)
  have HW3 := Lib.hid hW3
  clear hK42 hK62 h2 HF hW3
  obtain ⟨p0, p1, p2, p3, p4, p5, p6, p7, p8, p9, p10⟩ := box11 HK6.out
  obtain ⟨q0, q1, q2, q3, q4, q5, q6, q7, q8, q9, q10⟩ := box11 HK9.out
  obtain ⟨y0, y1, y2, y3, y4, y5, y6, y7, y8, y9, y10⟩ := froz11 HK4.out
  obtain ⟨k0, k1, k2, k3, k4, k5, k6, k7, k8, k9, k10⟩ := box11 HK4.out
  go_upto_region 6 with fail
  rw [← HW3.out]
  clear HW3
  go_wp2_with fail
  have hk := blk11 HK4.out (.int .i64 0) (.int .i64 0) (.string ⟨#[]⟩) (.string ⟨#[]⟩) (.bool false) (.bool false) (.slice none 0 0) (.slice none 0 0) (.slice none 0 0) (.slice none 0 0) (.int .i64 0)
  have hon := only11 W3 w.heap.size (.int .i64 0) (.int .i64 0) (.string ⟨#[]⟩) (.string ⟨#[]⟩) (.bool false) (.bool false) (.slice none 0 0) (.slice none 0 0) (.slice none 0 0) (.slice none 0 0) (.int .i64 0)
  obtain ⟨u0, u1, u2, u3, u4, u5, u6, u7, u8, u9, u10⟩ := box11 hk
  have FIN := Lib.hid (show Endp w0 w pb mb cb (.tuple #[Ag.z.v, .int .i64 6]) m.tick (.returned (.tuple #[Ag.z.v, .int .i64 6])) _ from ⟨rfl, h3.only hon HK4.out (by decide) (by decide) (by decide) hbw, HF3.out.only hon (Nat.le_refl _)⟩)
  clear hk hon
  exact bodyPost_ret (v := .tuple #[Ag.z.v, .int .i64 6]) (by simp [results, Try.results54, go_sem, u0, u1, u2, u3, u4, u5, u6, u7, u8, u9, u10, Ag.v, Ag.z]) rfl FIN.out
set_option maxHeartbeats 3200000 in
set_option maxRecDepth 100000 in
theorem block_ag_none (h : St w0 w pb mb cb m) {x : Int} (hv : m.val x = none) : Calls Try.prog 54 #[ptr pb, .int .i64 x] w (Endp w0 w pb mb cb (.tuple #[Ag.z.v, .int .i64 5]) m.gone) := by
  obtain ⟨W, hW⟩ : ∃ W : World, W = (w.alloc (.cells #[.int .i64 0, .int .i64 0, .string ⟨#[]⟩, .string ⟨#[]⟩, .bool false, .bool false, .slice none 0 0, .slice none 0 0, .slice none 0 0, .slice none 0 0, .int .i64 0] 52)).alloc (.cells #[.int .i64 0, .int .i64 0, .string ⟨#[]⟩, .string ⟨#[]⟩, .bool false, .bool false, .slice none 0 0, .slice none 0 0, .slice none 0 0, .slice none 0 0, .int .i64 0] 52) := ⟨_, rfl⟩
  have hb : Below w.heap.size w W := hW ▸ below_alloc (below_alloc (Below.refl _ _) _) _
  have hK4 : W.heap[w.heap.size]? = some (.cells #[.int .i64 0, .int .i64 0, .string ⟨#[]⟩, .string ⟨#[]⟩, .bool false, .bool false, .slice none 0 0, .slice none 0 0, .slice none 0 0, .slice none 0 0, .int .i64 0] 52 (0, 0)) := hW ▸ blk_alloc (blk_new w _) _
  have hK6 : W.heap[w.heap.size + 1]? = some (.cells #[.int .i64 0, .int .i64 0, .string ⟨#[]⟩, .string ⟨#[]⟩, .bool false, .bool false, .slice none 0 0, .slice none 0 0, .slice none 0 0, .slice none 0 0, .int .i64 0] 52 (0, 0)) := by
    have e : w.heap.size + 1 = (w.alloc (.cells #[.int .i64 0, .int .i64 0, .string ⟨#[]⟩, .string ⟨#[]⟩, .bool false, .bool false, .slice none 0 0, .slice none 0 0, .slice none 0 0, .slice none 0 0, .int .i64 0] 52)).heap.size := by simp
    rw [e]
    exact hW ▸ blk_new _ _
  have h1 := h.below hb
  have hbw : w0.heap.size ≤ w.heap.size := h.F.size
  have HL := Lib.hid (load_none hv)
  clear hv
  have HW := Lib.hid hW
  have HB := Lib.hid hb
  clear hW hb h
  go_enter Try.func54, Try.ntmps54
  go_upto_region 2 with fail
  rw [← HW.out]
  clear HW
  go_wp2_with fail
  refine (qLoad h1 x).mono ?_
  rw [HL.out]
  rintro e W2 ⟨rfl, h2, hF⟩
  have hK42 := hF.blk h1.A hK4 (by decide) (by decide)
  have hK62 := hF.blk h1.A hK6 (by decide) (by decide)
  have HF := Lib.hid ((Fr.of_below HB.out mb cb).trans hF)
  clear hF h1 hK4 hK6
  have HK4 := Lib.hid hK42
  obtain ⟨p0, p1, p2, p3, p4, p5, p6, p7, p8, p9, p10⟩ := box11 hK62
  obtain ⟨y0, y1, y2, y3, y4, y5, y6, y7, y8, y9, y10⟩ := froz11 HK4.out
  obtain ⟨k0, k1, k2, k3, k4, k5, k6, k7, k8, k9, k10⟩ := box11 HK4.out
  clear hK42 hK62
  go_wp2_with fail
  have hk := blk11 HK4.out (.int .i64 0) (.int .i64 0) (.string ⟨#[]⟩) (.string ⟨#[]⟩) (.bool false) (.bool false) (.slice none 0 0) (.slice none 0 0) (.slice none 0 0) (.slice none 0 0) (.int .i64 0)
  have hon := only11 W2 w.heap.size (.int .i64 0) (.int .i64 0) (.string ⟨#[]⟩) (.string ⟨#[]⟩) (.bool false) (.bool false) (.slice none 0 0) (.slice none 0 0) (.slice none 0 0) (.slice none 0 0) (.int .i64 0)
  obtain ⟨u0, u1, u2, u3, u4, u5, u6, u7, u8, u9, u10⟩ := box11 hk
  have FIN := Lib.hid (show Endp w0 w pb mb cb (.tuple #[Ag.z.v, .int .i64 5]) m.gone (.returned (.tuple #[Ag.z.v, .int .i64 5])) _ from ⟨rfl, h2.only hon HK4.out (by decide) (by decide) (by decide) hbw, HF.out.only hon (Nat.le_refl _)⟩)
  clear hk hon
  exact bodyPost_ret (v := .tuple #[Ag.z.v, .int .i64 5]) (by simp [results, Try.results54, go_sem, u0, u1, u2, u3, u4, u5, u6, u7, u8, u9, u10, Ag.v, Ag.z]) rfl FIN.out
set_option maxHeartbeats 3200000 in
set_option maxRecDepth 100000 in
theorem take_of (h : St w0 w pb mb cb m) (x : Int) {a : Ag} {e1 : Int} {M1 : M} (hc : ∀ W, Below w.heap.size w W → St w0 W pb mb cb m → Calls Try.prog 54 #[ptr pb, .int .i64 x] W (Endp w0 W pb mb cb (.tuple #[a.v, .int .i64 e1]) M1)) :
    Calls Try.prog 27 #[ptr pb, .int .i64 x] w (Endp w0 w pb mb cb (.tuple #[a.v, .int .i64 e1]) M1) := by
  obtain ⟨W, hW⟩ : ∃ W : World, W = w.alloc (.cells #[.int .i64 0, .int .i64 0, .string ⟨#[]⟩, .string ⟨#[]⟩, .bool false, .bool false, .slice none 0 0, .slice none 0 0, .slice none 0 0, .slice none 0 0, .int .i64 0] 52) := ⟨_, rfl⟩
  have hb : Below w.heap.size w W := hW ▸ below_alloc (Below.refl _ _) _
  have hK4 : W.heap[w.heap.size]? = some (.cells #[.int .i64 0, .int .i64 0, .string ⟨#[]⟩, .string ⟨#[]⟩, .bool false, .bool false, .slice none 0 0, .slice none 0 0, .slice none 0 0, .slice none 0 0, .int .i64 0] 52 (0, 0)) := hW ▸ blk_new w _
  have h1 := h.below hb
  have hbw : w0.heap.size ≤ w.heap.size := h.F.size
  have HC := Lib.hid (hc W hb h1)
  have HW := Lib.hid hW
  have HB := Lib.hid hb
  clear hW hb h hc
  go_enter Try.func27, Try.ntmps27
  go_upto_region 1 with fail
  rw [← HW.out]
  clear HW
  go_wp2_with fail
  refine HC.out.mono ?_
  rintro e W2 ⟨rfl, h2, hF⟩
  have HK4 := Lib.hid (hF.blk h1.A hK4 (by decide) (by decide))
  have HF := Lib.hid ((Fr.of_below HB.out mb cb).trans hF)
  clear hF h1 hK4
  obtain ⟨y0, y1, y2, y3, y4, y5, y6, y7, y8, y9, y10⟩ := froz11 HK4.out
  obtain ⟨p0, p1, p2, p3, p4, p5, p6, p7, p8, p9, p10⟩ := box11 HK4.out
  go_wp2_with fail
  have hk := blk11 HK4.out (.int .i64 a.ver) (.int .i64 0) (.string ⟨#[]⟩) (.string ⟨#[]⟩) (.bool false) (.bool a.dead) (.slice none 0 0) (.slice none 0 0) (.slice none 0 0) (.slice none 0 0) (.int .i64 a.prev)
  have hon := only11 W2 w.heap.size (.int .i64 a.ver) (.int .i64 0) (.string ⟨#[]⟩) (.string ⟨#[]⟩) (.bool false) (.bool a.dead) (.slice none 0 0) (.slice none 0 0) (.slice none 0 0) (.slice none 0 0) (.int .i64 a.prev)
  obtain ⟨u0, u1, u2, u3, u4, u5, u6, u7, u8, u9, u10⟩ := box11 hk
  have FIN := Lib.hid (show Endp w0 w pb mb cb (.tuple #[a.v, .int .i64 e1]) M1 (.returned (.tuple #[a.v, .int .i64 e1])) _ from ⟨rfl, h2.only hon HK4.out (by decide) (by decide) (by decide) hbw, HF.out.only hon (Nat.le_refl _)⟩)
  clear hk hon
  exact bodyPost_ret (v := .tuple #[a.v, .int .i64 e1]) (by simp [results, Try.results27, go_sem, u0, u1, u2, u3, u4, u5, u6, u7, u8, u9, u10, Ag.v]) rfl FIN.out
theorem take_ok (h : St w0 w pb mb cb m) {x : Int} {a : Ag} (hv : m.val x = some (.iface 52 a.v)) : Calls Try.prog 27 #[ptr pb, .int .i64 x] w (Endp w0 w pb mb cb (.tuple #[a.v, .int .i64 0]) m.tick) := take_of h x (fun W _ h' => block_ag_ok h' hv)
theorem take_num (h : St w0 w pb mb cb m) {x n : Int} (hv : m.val x = some (number n)) : Calls Try.prog 27 #[ptr pb, .int .i64 x] w (Endp w0 w pb mb cb (.tuple #[Ag.z.v, .int .i64 6]) m.tick) := take_of (a := Ag.z) h x (fun W _ h' => block_ag_num h' hv)
theorem take_other (h : St w0 w pb mb cb m) {x : Int} {T : TypeId} {u : Value} (hv : m.val x = some (.iface T u)) (h1 : T ≠ 117) (h2 : T ≠ 52) : Calls Try.prog 27 #[ptr pb, .int .i64 x] w (Endp w0 w pb mb cb (.tuple #[Ag.z.v, .int .i64 6]) m.tick) := take_of (a := Ag.z) h x (fun W _ h' => block_ag_other h' hv h1 h2)
theorem take_none (h : St w0 w pb mb cb m) {x : Int} (hv : m.val x = none) : Calls Try.prog 27 #[ptr pb, .int .i64 x] w (Endp w0 w pb mb cb (.tuple #[Ag.z.v, .int .i64 5]) m.gone) := take_of (a := Ag.z) h x (fun W _ h' => block_ag_none h' hv)
theorem ta_nd (a : Nd) (w : World) : (Instr.typeAssert (.iface 46 a.v) 20 46 true).run Try.prog w = .ok (.tuple #[a.v, .bool true]) w := by kernel_rfl
theorem zero_nd (w : World) : (zeroValue 46).run Try.prog w = .ok Nd.z.v w := by kernel_rfl
theorem ta_not_nd {T : TypeId} (u : Value) (hT : T ≠ 46) (w : World) : (Instr.typeAssert (.iface T u) 20 46 true).run Try.prog w = .ok (.tuple #[Nd.z.v, .bool false]) w := by
  have hu := Try.underlying46
  have hz := zero_nd w
  simp [Instr.typeAssert, run_underlying hu, hT, hz]
theorem ta_nil_nd (w : World) : (Instr.typeAssert .nilIface 20 46 true).run Try.prog w = .ok (.tuple #[Nd.z.v, .bool false]) w := by kernel_rfl
set_option maxHeartbeats 3200000 in
set_option maxRecDepth 100000 in
theorem block_nd_ok (h : St w0 w pb mb cb m) {x : Int} {a : Nd} (hv : m.val x = some (.iface 46 a.v)) : Calls Try.prog 56 #[ptr pb, .int .i64 x] w (Endp w0 w pb mb cb (.tuple #[a.v, .int .i64 0]) m.tick) := by
  obtain ⟨W, hW⟩ : ∃ W : World, W = (w.alloc (.cells #[.string ⟨#[]⟩, .int .i64 0, .slice none 0 0] 46)).alloc (.cells #[.string ⟨#[]⟩, .int .i64 0, .slice none 0 0] 46) := ⟨_, rfl⟩
  have hb : Below w.heap.size w W := hW ▸ below_alloc (below_alloc (Below.refl _ _) _) _
  have hK4 : W.heap[w.heap.size]? = some (.cells #[.string ⟨#[]⟩, .int .i64 0, .slice none 0 0] 46 (0, 0)) := hW ▸ blk_alloc (blk_new w _) _
  have hK6 : W.heap[w.heap.size + 1]? = some (.cells #[.string ⟨#[]⟩, .int .i64 0, .slice none 0 0] 46 (0, 0)) := by
    have e : w.heap.size + 1 = (w.alloc (.cells #[.string ⟨#[]⟩, .int .i64 0, .slice none 0 0] 46)).heap.size := by simp
    rw [e]
    exact hW ▸ blk_new _ _
  have h1 := h.below hb
  have hbw : w0.heap.size ≤ w.heap.size := h.F.size
  have HL := Lib.hid (load_val hv (by decide))
  clear hv
  have HW := Lib.hid hW
  have HB := Lib.hid hb
  clear hW hb h
  go_enter Try.func56, Try.ntmps56
  go_upto_region 2 with fail
  rw [← HW.out]
  clear HW
  go_wp2_with fail
  refine (qLoad h1 x).mono ?_
  rw [HL.out]
  rintro e W2 ⟨rfl, h2, hF⟩
  have hK42 := hF.blk h1.A hK4 (by decide) (by decide)
  have hK62 := hF.blk h1.A hK6 (by decide) (by decide)
  have HF := Lib.hid ((Fr.of_below HB.out mb cb).trans hF)
  clear hF h1 hK4 hK6
  have hta := ta_nd a
  obtain ⟨W3, hW3⟩ : ∃ W3 : World, W3 = W2.alloc (.cells #[.string a.low, .int .i64 a.head, .slice a.A a.n a.k] 46) := ⟨_, rfl⟩
  have HK4 : Hid (W3.heap[w.heap.size]? = some (.cells #[.string ⟨#[]⟩, .int .i64 0, .slice none 0 0] 46 (0, 0))) := Lib.hid (hW3 ▸ blk_alloc hK42 _)
  have HK6 : Hid (W3.heap[w.heap.size + 1]? = some (.cells #[.string ⟨#[]⟩, .int .i64 0, .slice none 0 0] 46 (0, 0))) := Lib.hid (hW3 ▸ blk_alloc hK62 _)
  have HK9 : Hid (W3.heap[W2.heap.size]? = some (.cells #[.string a.low, .int .i64 a.head, .slice a.A a.n a.k] 46 (0, 0))) := Lib.hid (hW3 ▸ blk_new W2 _)
  have h3 : St w0 W3 pb mb cb m.tick := hW3 ▸ h2.alloc _
  have HF3 : Hid (Fr w W3 mb cb) := Lib.hid (hW3 ▸ HF.out.alloc _)
  have HW3 := Lib.hid hW3
  clear hK42 hK62 h2 HF hW3
  obtain ⟨p0, p1, p2⟩ := box3 HK6.out
  obtain ⟨q0, q1, q2⟩ := box3 HK9.out
  obtain ⟨y0, y1, y2⟩ := froz3 HK4.out
  obtain ⟨k0, k1, k2⟩ := box3 HK4.out
  go_upto_region 6 with fail
  rw [← HW3.out]
  clear HW3
  go_wp2_with fail
  have hk := blk3 HK4.out (.string a.low) (.int .i64 a.head) (.slice a.A a.n a.k)
  have hon := only3 W3 w.heap.size (.string a.low) (.int .i64 a.head) (.slice a.A a.n a.k)
  obtain ⟨u0, u1, u2⟩ := box3 hk
  have FIN := Lib.hid (show Endp w0 w pb mb cb (.tuple #[a.v, .int .i64 0]) m.tick (.returned (.tuple #[a.v, .int .i64 0])) _ from ⟨rfl, h3.only hon HK4.out (by decide) (by decide) (by decide) hbw, HF3.out.only hon (Nat.le_refl _)⟩)
  clear hk hon
  exact bodyPost_ret (v := .tuple #[a.v, .int .i64 0]) (by simp [results, Try.results56, go_sem, u0, u1, u2, Nd.v, Nd.z]) rfl FIN.out
set_option maxHeartbeats 3200000 in
set_option maxRecDepth 100000 in
theorem block_nd_num (h : St w0 w pb mb cb m) {x : Int} {n : Int} (hv : m.val x = some (number n)) : Calls Try.prog 56 #[ptr pb, .int .i64 x] w (Endp w0 w pb mb cb (.tuple #[Nd.z.v, .int .i64 6]) m.tick) := by
  obtain ⟨W, hW⟩ : ∃ W : World, W = (w.alloc (.cells #[.string ⟨#[]⟩, .int .i64 0, .slice none 0 0] 46)).alloc (.cells #[.string ⟨#[]⟩, .int .i64 0, .slice none 0 0] 46) := ⟨_, rfl⟩
  have hb : Below w.heap.size w W := hW ▸ below_alloc (below_alloc (Below.refl _ _) _) _
  have hK4 : W.heap[w.heap.size]? = some (.cells #[.string ⟨#[]⟩, .int .i64 0, .slice none 0 0] 46 (0, 0)) := hW ▸ blk_alloc (blk_new w _) _
  have hK6 : W.heap[w.heap.size + 1]? = some (.cells #[.string ⟨#[]⟩, .int .i64 0, .slice none 0 0] 46 (0, 0)) := by
    have e : w.heap.size + 1 = (w.alloc (.cells #[.string ⟨#[]⟩, .int .i64 0, .slice none 0 0] 46)).heap.size := by simp
    rw [e]
    exact hW ▸ blk_new _ _
  have h1 := h.below hb
  have hbw : w0.heap.size ≤ w.heap.size := h.F.size
  have HL := Lib.hid (load_num hv)
  clear hv
  have HW := Lib.hid hW
  have HB := Lib.hid hb
  clear hW hb h
  go_enter Try.func56, Try.ntmps56
  go_upto_region 2 with fail
  rw [← HW.out]
  clear HW
  go_wp2_with fail
  refine (qLoad h1 x).mono ?_
  rw [HL.out]
  rintro e W2 ⟨rfl, h2, hF⟩
  have hK42 := hF.blk h1.A hK4 (by decide) (by decide)
  have hK62 := hF.blk h1.A hK6 (by decide) (by decide)
  have HF := Lib.hid ((Fr.of_below HB.out mb cb).trans hF)
  clear hF h1 hK4 hK6
  have HK4 := Lib.hid hK42
  obtain ⟨p0, p1, p2⟩ := box3 hK62
  obtain ⟨y0, y1, y2⟩ := froz3 HK4.out
  obtain ⟨k0, k1, k2⟩ := box3 HK4.out
  clear hK42 hK62
  go_wp2_with fail
  have hk := blk3 HK4.out (.string ⟨#[]⟩) (.int .i64 0) (.slice none 0 0)
  have hon := only3 W2 w.heap.size (.string ⟨#[]⟩) (.int .i64 0) (.slice none 0 0)
  obtain ⟨u0, u1, u2⟩ := box3 hk
  have FIN := Lib.hid (show Endp w0 w pb mb cb (.tuple #[Nd.z.v, .int .i64 6]) m.tick (.returned (.tuple #[Nd.z.v, .int .i64 6])) _ from ⟨rfl, h2.only hon HK4.out (by decide) (by decide) (by decide) hbw, HF.out.only hon (Nat.le_refl _)⟩)
  clear hk hon
  exact bodyPost_ret (v := .tuple #[Nd.z.v, .int .i64 6]) (by simp [results, Try.results56, go_sem, u0, u1, u2, Nd.v, Nd.z]) rfl FIN.out
set_option maxHeartbeats 3200000 in
set_option maxRecDepth 100000 in
theorem block_nd_other (h : St w0 w pb mb cb m) {x : Int} {T : TypeId} {u : Value} (hv : m.val x = some (.iface T u)) (hT1 : T ≠ 117) (hT2 : T ≠ 46) : Calls Try.prog 56 #[ptr pb, .int .i64 x] w (Endp w0 w pb mb cb (.tuple #[Nd.z.v, .int .i64 6]) m.tick) := by
  obtain ⟨W, hW⟩ : ∃ W : World, W = (w.alloc (.cells #[.string ⟨#[]⟩, .int .i64 0, .slice none 0 0] 46)).alloc (.cells #[.string ⟨#[]⟩, .int .i64 0, .slice none 0 0] 46) := ⟨_, rfl⟩
  have hb : Below w.heap.size w W := hW ▸ below_alloc (below_alloc (Below.refl _ _) _) _
  have hK4 : W.heap[w.heap.size]? = some (.cells #[.string ⟨#[]⟩, .int .i64 0, .slice none 0 0] 46 (0, 0)) := hW ▸ blk_alloc (blk_new w _) _
  have hK6 : W.heap[w.heap.size + 1]? = some (.cells #[.string ⟨#[]⟩, .int .i64 0, .slice none 0 0] 46 (0, 0)) := by
    have e : w.heap.size + 1 = (w.alloc (.cells #[.string ⟨#[]⟩, .int .i64 0, .slice none 0 0] 46)).heap.size := by simp
    rw [e]
    exact hW ▸ blk_new _ _
  have h1 := h.below hb
  have hbw : w0.heap.size ≤ w.heap.size := h.F.size
  have HL := Lib.hid (load_val hv hT1)
  have HT := Lib.hid hT2
  clear hv hT1 hT2
  have HW := Lib.hid hW
  have HB := Lib.hid hb
  clear hW hb h
  go_enter Try.func56, Try.ntmps56
  go_upto_region 2 with fail
  rw [← HW.out]
  clear HW
  go_wp2_with fail
  refine (qLoad h1 x).mono ?_
  rw [HL.out]
  rintro e W2 ⟨rfl, h2, hF⟩
  have hK42 := hF.blk h1.A hK4 (by decide) (by decide)
  have hK62 := hF.blk h1.A hK6 (by decide) (by decide)
  have HF := Lib.hid ((Fr.of_below HB.out mb cb).trans hF)
  clear hF h1 hK4 hK6
  have hta := ta_not_nd u HT.out
  obtain ⟨W3, hW3⟩ : ∃ W3 : World, W3 = W2.alloc (.cells #[.string ⟨#[]⟩, .int .i64 0, .slice none 0 0] 46) := ⟨_, rfl⟩
  have HK4 : Hid (W3.heap[w.heap.size]? = some (.cells #[.string ⟨#[]⟩, .int .i64 0, .slice none 0 0] 46 (0, 0))) := Lib.hid (hW3 ▸ blk_alloc hK42 _)
  have HK6 : Hid (W3.heap[w.heap.size + 1]? = some (.cells #[.string ⟨#[]⟩, .int .i64 0, .slice none 0 0] 46 (0, 0))) := Lib.hid (hW3 ▸ blk_alloc hK62 _)
  have HK9 : Hid (W3.heap[W2.heap.size]? = some (.cells #[.string ⟨#[]⟩, .int .i64 0, .slice none 0 0] 46 (0, 0))) := Lib.hid (hW3 ▸ blk_new W2 _)
  have h3 : St w0 W3 pb mb cb m.tick := hW3 ▸ h2.alloc _
  have HF3 : Hid (Fr w W3 mb cb) := Lib.hid (hW3 ▸ HF.out.alloc _)
  have HW3 := Lib.hid hW3
  clear hK42 hK62 h2 HF hW3
  obtain ⟨p0, p1, p2⟩ := box3 HK6.out
  obtain ⟨q0, q1, q2⟩ := box3 HK9.out
  obtain ⟨y0, y1, y2⟩ := froz3 HK4.out
  obtain ⟨k0, k1, k2⟩ := box3 HK4.out
  go_upto_region 6 with fail
  rw [← HW3.out]
  clear HW3
  go_wp2_with fail
  have hk := blk3 HK4.out (.string ⟨#[]⟩) (.int .i64 0) (.slice none 0 0)
  have hon := only3 W3 w.heap.size (.string ⟨#[]⟩) (.int .i64 0) (.slice none 0 0)
  obtain ⟨u0, u1, u2⟩ := box3 hk
  have FIN := Lib.hid (show Endp w0 w pb mb cb (.tuple #[Nd.z.v, .int .i64 6]) m.tick (.returned (.tuple #[Nd.z.v, .int .i64 6])) _ from ⟨rfl, h3.only hon HK4.out (by decide) (by decide) (by decide) hbw, HF3.out.only hon (Nat.le_refl _)⟩)
  clear hk hon
  exact bodyPost_ret (v := .tuple #[Nd.z.v, .int .i64 6]) (by simp [results, Try.results56, go_sem, u0, u1, u2, Nd.v, Nd.z]) rfl FIN.out
set_option maxHeartbeats 3200000 in
set_option maxRecDepth 100000 in
theorem block_nd_none (h : St w0 w pb mb cb m) {x : Int} (hv : m.val x = none) : Calls Try.prog 56 #[ptr pb, .int .i64 x] w (Endp w0 w pb mb cb (.tuple #[Nd.z.v, .int .i64 5]) m.gone) := by
  obtain ⟨W, hW⟩ : ∃ W : World, W = (w.alloc (.cells #[.string ⟨#[]⟩, .int .i64 0, .slice none 0 0] 46)).alloc (.cells #[.string ⟨#[]⟩, .int .i64 0, .slice none 0 0] 46) := ⟨_, rfl⟩
  have hb : Below w.heap.size w W := hW ▸ below_alloc (below_alloc (Below.refl _ _) _) _
  have hK4 : W.heap[w.heap.size]? = some (.cells #[.string ⟨#[]⟩, .int .i64 0, .slice none 0 0] 46 (0, 0)) := hW ▸ blk_alloc (blk_new w _) _
  have hK6 : W.heap[w.heap.size + 1]? = some (.cells #[.string ⟨#[]⟩, .int .i64 0, .slice none 0 0] 46 (0, 0)) := by
    have e : w.heap.size + 1 = (w.alloc (.cells #[.string ⟨#[]⟩, .int .i64 0, .slice none 0 0] 46)).heap.size := by simp
    rw [e]
    exact hW ▸ blk_new _ _
  have h1 := h.below hb
  have hbw : w0.heap.size ≤ w.heap.size := h.F.size
  have HL := Lib.hid (load_none hv)
  clear hv
  have HW := Lib.hid hW
  have HB := Lib.hid hb
  clear hW hb h
  go_enter Try.func56, Try.ntmps56
  go_upto_region 2 with fail
  rw [← HW.out]
  clear HW
  go_wp2_with fail
  refine (qLoad h1 x).mono ?_
  rw [HL.out]
  rintro e W2 ⟨rfl, h2, hF⟩
  have hK42 := hF.blk h1.A hK4 (by decide) (by decide)
  have hK62 := hF.blk h1.A hK6 (by decide) (by decide)
  have HF := Lib.hid ((Fr.of_below HB.out mb cb).trans hF)
  clear hF h1 hK4 hK6
  have HK4 := Lib.hid hK42
  obtain ⟨p0, p1, p2⟩ := box3 hK62
  obtain ⟨y0, y1, y2⟩ := froz3 HK4.out
  obtain ⟨k0, k1, k2⟩ := box3 HK4.out
  clear hK42 hK62
  go_wp2_with fail
  have hk := blk3 HK4.out (.string ⟨#[]⟩) (.int .i64 0) (.slice none 0 0)
  have hon := only3 W2 w.heap.size (.string ⟨#[]⟩) (.int .i64 0) (.slice none 0 0)
  obtain ⟨u0, u1, u2⟩ := box3 hk
  have FIN := Lib.hid (show Endp w0 w pb mb cb (.tuple #[Nd.z.v, .int .i64 5]) m.gone (.returned (.tuple #[Nd.z.v, .int .i64 5])) _ from ⟨rfl, h2.only hon HK4.out (by decide) (by decide) (by decide) hbw, HF.out.only hon (Nat.le_refl _)⟩)
  clear hk hon
  exact bodyPost_ret (v := .tuple #[Nd.z.v, .int .i64 5]) (by simp [results, Try.results56, go_sem, u0, u1, u2, Nd.v, Nd.z]) rfl FIN.out
set_option maxHeartbeats 3200000 in
set_option maxRecDepth 100000 in
theorem nload_of (h : St w0 w pb mb cb m) (x : Int) {a : Nd} {e1 : Int} {M1 : M} (hc : ∀ W, Below w.heap.size w W → St w0 W pb mb cb m → Calls Try.prog 56 #[ptr pb, .int .i64 x] W (Endp w0 W pb mb cb (.tuple #[a.v, .int .i64 e1]) M1)) :
    Calls Try.prog 32 #[ptr pb, .int .i64 x] w (Endp w0 w pb mb cb (.tuple #[a.v, .int .i64 e1]) M1) := by
  obtain ⟨W, hW⟩ : ∃ W : World, W = w.alloc (.cells #[.string ⟨#[]⟩, .int .i64 0, .slice none 0 0] 46) := ⟨_, rfl⟩
  have hb : Below w.heap.size w W := hW ▸ below_alloc (Below.refl _ _) _
  have hK4 : W.heap[w.heap.size]? = some (.cells #[.string ⟨#[]⟩, .int .i64 0, .slice none 0 0] 46 (0, 0)) := hW ▸ blk_new w _
  have h1 := h.below hb
  have hbw : w0.heap.size ≤ w.heap.size := h.F.size
  have HC := Lib.hid (hc W hb h1)
  have HW := Lib.hid hW
  have HB := Lib.hid hb
  clear hW hb h hc
  go_enter Try.func32, Try.ntmps32
  go_upto_region 1 with fail
  rw [← HW.out]
  clear HW
  go_wp2_with fail
  refine HC.out.mono ?_
  rintro e W2 ⟨rfl, h2, hF⟩
  have HK4 := Lib.hid (hF.blk h1.A hK4 (by decide) (by decide))
  have HF := Lib.hid ((Fr.of_below HB.out mb cb).trans hF)
  clear hF h1 hK4
  obtain ⟨y0, y1, y2⟩ := froz3 HK4.out
  obtain ⟨p0, p1, p2⟩ := box3 HK4.out
  go_wp2_with fail
  have hk := blk3 HK4.out (.string a.low) (.int .i64 a.head) (.slice a.A a.n a.k)
  have hon := only3 W2 w.heap.size (.string a.low) (.int .i64 a.head) (.slice a.A a.n a.k)
  obtain ⟨u0, u1, u2⟩ := box3 hk
  have FIN := Lib.hid (show Endp w0 w pb mb cb (.tuple #[a.v, .int .i64 e1]) M1 (.returned (.tuple #[a.v, .int .i64 e1])) _ from ⟨rfl, h2.only hon HK4.out (by decide) (by decide) (by decide) hbw, HF.out.only hon (Nat.le_refl _)⟩)
  clear hk hon
  exact bodyPost_ret (v := .tuple #[a.v, .int .i64 e1]) (by simp [results, Try.results32, go_sem, u0, u1, u2, Nd.v]) rfl FIN.out
theorem nload_ok (h : St w0 w pb mb cb m) {x : Int} {a : Nd} (hv : m.val x = some (.iface 46 a.v)) : Calls Try.prog 32 #[ptr pb, .int .i64 x] w (Endp w0 w pb mb cb (.tuple #[a.v, .int .i64 0]) m.tick) := nload_of h x (fun W _ h' => block_nd_ok h' hv)
theorem nload_num (h : St w0 w pb mb cb m) {x n : Int} (hv : m.val x = some (number n)) : Calls Try.prog 32 #[ptr pb, .int .i64 x] w (Endp w0 w pb mb cb (.tuple #[Nd.z.v, .int .i64 6]) m.tick) := nload_of (a := Nd.z) h x (fun W _ h' => block_nd_num h' hv)
theorem nload_other (h : St w0 w pb mb cb m) {x : Int} {T : TypeId} {u : Value} (hv : m.val x = some (.iface T u)) (h1 : T ≠ 117) (h2 : T ≠ 46) : Calls Try.prog 32 #[ptr pb, .int .i64 x] w (Endp w0 w pb mb cb (.tuple #[Nd.z.v, .int .i64 6]) m.tick) := nload_of (a := Nd.z) h x (fun W _ h' => block_nd_other h' hv h1 h2)
theorem nload_none (h : St w0 w pb mb cb m) {x : Int} (hv : m.val x = none) : Calls Try.prog 32 #[ptr pb, .int .i64 x] w (Endp w0 w pb mb cb (.tuple #[Nd.z.v, .int .i64 5]) m.gone) := nload_of (a := Nd.z) h x (fun W _ h' => block_nd_none h' hv)
end
end Go.Proofs.Ytcfbjcadpcedhaa.Mem
