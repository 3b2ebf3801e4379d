/- Nodes, by a port that asks memory at once: Newest, Make. -/
import Derived.Test.YtcfbjcadpcedhaaNode3
namespace Go.Proofs.Ytcfbjcadpcedhaa.Mem
open Go.RowKit Go.Proofs.YtcfbjcadpcedhaaW.PrintWords Go.Proofs.YtcfbjcadpcedhaaW.PrintLast Go.Proofs.Ytcfbjcadpcedhaa.Tags
set_option linter.unusedVariables false
set_option linter.unusedSimpArgs false
section
variable {w0 w w' : World} {pb mb cb : Nat} {m m' : M}
/-- Newest: what the word of the head tells, and the age there. -/
theorem blks (w : World) (a : Nd) : ∃ W, W = (w.alloc (nodC a)).alloc (ageC Ag.z) ∧ Below w.heap.size w W ∧ W.heap[w.heap.size]? = some (.cells #[.string a.low, .int .i64 a.head, .slice a.A a.n a.k] 46 (0, 0)) ∧ W.heap[w.heap.size + 1]? = some (.cells #[.int .i64 0, .int .i64 0, .string ⟨#[]⟩, .string ⟨#[]⟩, .bool false, .bool false, .slice none 0 0, .slice none 0 0, .slice none 0 0, .slice none 0 0, .int .i64 0] 52 (0, 0)) := by
  refine ⟨_, rfl, below_alloc (below_alloc (Below.refl _ _) _) _, blk_alloc (blk_new _ _) _, ?_⟩
  have e : w.heap.size + 1 = (w.alloc (nodC a)).heap.size := by simp
  rw [e]
  exact blk_new _ _
set_option maxHeartbeats 3200000 in
set_option maxRecDepth 100000 in
theorem newest_ok (h : St w0 w pb mb cb m) (nd : Nd) {z : Int} {a : Ag} {M1 M2 : M} (hw : m.word nd.head = (M1, z, 0)) (hv : ∀ W, St w0 W pb mb cb M1 → Calls Try.prog 27 #[ptr pb, .int .i64 z] W (Endp w0 W pb mb cb (.tuple #[a.v, .int .i64 0]) M2)) :
    Calls Try.prog 21 #[ptr pb, nd.v] w (Endp w0 w pb mb cb (.tuple #[.int .i64 z, a.v, .int .i64 0]) M2) := by
  obtain ⟨W, hW, hb, hK3, hK5⟩ := blks w nd
  have h1 := h.below hb
  have hbw : w0.heap.size ≤ w.heap.size := h.F.size
  obtain ⟨k0, k1, k2⟩ := box3 hK3
  have HWD := Lib.hid hw
  have HV := Lib.hid hv
  have HW := Lib.hid hW
  have HB := Lib.hid (Fr.of_below hb mb cb)
  clear hw hv hW hb h
  go_enter Try.func21, Try.ntmps21
  go_upto_region 1 with fail
  rw [← HW.out]
  clear HW
  go_wp2_with fail
  refine (qWord h1 nd.head).mono ?_
  rw [HWD.out]
  rintro e W1 ⟨rfl, h2, hF⟩
  have hK51 := hF.blk h1.A hK5 (by decide) (by decide)
  have HF := Lib.hid (HB.out.trans hF)
  clear hF h1 hK5 hK3 k0 k1 k2 HB
  go_wp2_with fail
  refine (HV.out W1 h2).mono ?_
  rintro e W2 ⟨rfl, h3, hF⟩
  have hK52 := hF.blk h2.A hK51 (by decide) (by decide)
  obtain ⟨W3, hW3⟩ : ∃ W3 : World, W3 = W2.alloc (ageC a) := ⟨_, rfl⟩
  have hb3 : Below W2.heap.size W2 W3 := hW3 ▸ below_alloc (Below.refl _ _) _
  have HK5 := Lib.hid (blk_below hK52 hb3)
  obtain ⟨q0, q1, q2, q3, q4, q5, q6, q7, q8, q9, q10⟩ := box11 (show W3.heap[W2.heap.size]? = some (.cells #[.int .i64 a.ver, .int .i64 0, .string ⟨#[]⟩, .string ⟨#[]⟩, .bool false, .bool a.dead, .slice none 0 0, .slice none 0 0, .slice none 0 0, .slice none 0 0, .int .i64 a.prev] 52 (0, 0)) from hW3 ▸ blk_new _ _)
  have h4 := h3.below hb3
  have HF3 := Lib.hid ((HF.out.trans hF).trans (Fr.of_below hb3 mb cb))
  have HW3 := Lib.hid hW3
  clear hW3 hb3 hK52 hK51 hF h3 h2 HF HV
  go_upto_region 5 with fail
  rw [← HW3.out]
  clear HW3
  obtain ⟨y0, y1, y2, y3, y4, y5, y6, y7, y8, y9, y10⟩ := froz11 HK5.out
  obtain ⟨p0, p1, p2, p3, p4, p5, p6, p7, p8, p9, p10⟩ := box11 HK5.out
  go_upto_region 7 with fail
  have hk := blk_drew (blk11 HK5.out (.int .i64 a.ver) (.int .i64 0) (.string ⟨#[]⟩) (.string ⟨#[]⟩) (.bool false) (.bool a.dead) (.slice none 0 0) (.slice none 0 0) (.slice none 0 0) (.slice none 0 0) (.int .i64 a.prev))
  have hon := only11 W3 (w.heap.size + 1) (.int .i64 a.ver) (.int .i64 0) (.string ⟨#[]⟩) (.string ⟨#[]⟩) (.bool false) (.bool a.dead) (.slice none 0 0) (.slice none 0 0) (.slice none 0 0) (.slice none 0 0) (.int .i64 a.prev)
  have U := Lib.hid (box11 hk)
  have FIN := Lib.hid (show Endp w0 w pb mb cb (.tuple #[.int .i64 z, a.v, .int .i64 0]) M2 (.returned (.tuple #[.int .i64 z, a.v, .int .i64 0])) _ from ⟨rfl, (h4.only hon HK5.out (by decide) (by decide) (by decide) (by omega)).drewN 1, (HF3.out.only hon (by omega)).drewN 1⟩)
  clear hk hon
  go_region
  go_wp2
  obtain ⟨u0, u1, u2, u3, u4, u5, u6, u7, u8, u9, u10⟩ := U.out
  exact bodyPost_ret (v := .tuple #[.int .i64 z, a.v, .int .i64 0]) (by simp [results, Try.results21, go_sem, u0, u1, u2, u3, u4, u5, u6, u7, u8, u9, u10, Ag.v]) rfl FIN.out
set_option maxHeartbeats 3200000 in
set_option maxRecDepth 100000 in
theorem newest_no (h : St w0 w pb mb cb m) (nd : Nd) {e1 : Int} {M1 : M} (he : e1 ≠ 0) (hw : m.word nd.head = (M1, 0, e1)) :
    Calls Try.prog 21 #[ptr pb, nd.v] w (Endp w0 w pb mb cb (.tuple #[.int .i64 0, Ag.z.v, .int .i64 e1]) M1) := by
  obtain ⟨W, hW, hb, hK3, hK5⟩ := blks w nd
  have h1 := h.below hb
  have hbw : w0.heap.size ≤ w.heap.size := h.F.size
  obtain ⟨k0, k1, k2⟩ := box3 hK3
  have HWD := Lib.hid hw
  have HW := Lib.hid hW
  have HB := Lib.hid (Fr.of_below hb mb cb)
  have g1 : (e1 != 0) = true := by simpa using he
  clear hw hW hb h
  go_enter Try.func21, Try.ntmps21
  go_upto_region 1 with fail
  rw [← HW.out]
  clear HW
  go_wp2_with fail
  refine (qWord h1 nd.head).mono ?_
  rw [HWD.out]
  rintro e W1 ⟨rfl, h2, hF⟩
  have HK5 := Lib.hid (hF.blk h1.A hK5 (by decide) (by decide))
  have HF := Lib.hid (HB.out.trans hF)
  clear hF h1 hK5 hK3 k0 k1 k2 HB
  obtain ⟨y0, y1, y2, y3, y4, y5, y6, y7, y8, y9, y10⟩ := froz11 HK5.out
  obtain ⟨p0, p1, p2, p3, p4, p5, p6, p7, p8, p9, p10⟩ := box11 HK5.out
  have hk := blk11 HK5.out (.int .i64 0) (.int .i64 0) (.string ⟨#[]⟩) (.string ⟨#[]⟩) (.bool false) (.bool false) (.slice none 0 0) (.slice none 0 0) (.slice none 0 0) (.slice none 0 0) (.int .i64 0)
  have hon := only11 W1 (w.heap.size + 1) (.int .i64 0) (.int .i64 0) (.string ⟨#[]⟩) (.string ⟨#[]⟩) (.bool false) (.bool false) (.slice none 0 0) (.slice none 0 0) (.slice none 0 0) (.slice none 0 0) (.int .i64 0)
  have U := Lib.hid (box11 hk)
  have FIN := Lib.hid (show Endp w0 w pb mb cb (.tuple #[.int .i64 0, Ag.z.v, .int .i64 e1]) M1 (.returned (.tuple #[.int .i64 0, Ag.z.v, .int .i64 e1])) _ from ⟨rfl, h2.only hon HK5.out (by decide) (by decide) (by decide) (by omega), HF.out.only hon (by omega)⟩)
  clear hk hon
  go_wp2
  obtain ⟨u0, u1, u2, u3, u4, u5, u6, u7, u8, u9, u10⟩ := U.out
  exact bodyPost_ret (v := .tuple #[.int .i64 0, Ag.z.v, .int .i64 e1]) (by simp [results, Try.results21, go_sem, u0, u1, u2, u3, u4, u5, u6, u7, u8, u9, u10, Ag.v, Ag.z]) rfl FIN.out
end
end Go.Proofs.Ytcfbjcadpcedhaa.Mem
