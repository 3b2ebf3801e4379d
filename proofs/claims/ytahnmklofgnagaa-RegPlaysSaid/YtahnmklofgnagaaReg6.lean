/- Registers, by a port that asks memory at once: Enter, Hold, Leave. -/
import Derived.Test.YtahnmklofgnagaaReg5
namespace Go.Proofs.Ytahnmklofgnagaa.Mem
open Go.RowKit Go.Proofs.YtahnmklofgnagaaW.PrintWords Go.Proofs.YtahnmklofgnagaaW.PrintLast Go.Proofs.Ytahnmklofgnagaa.Tags
set_option linter.unusedVariables false
set_option linter.unusedSimpArgs false
section
variable {w0 w w' : World} {pb mb cb : Nat} {m m' : M}
set_option maxHeartbeats 1600000 in
set_option maxRecDepth 100000 in
theorem leave_ok (h : St w0 w pb mb cb m) {base ca cc : Nat} {A B : Option Addr} {ts ss : List Int} (hR : RegAt w base A ca B cc ts ss) (top c : Int) {y : Int} (hs : slotOf ts c = (y, true)) :
    Calls Try.prog 62 #[ptr pb, .agg #[.int .i64 top, .slice A ts.length ca, .slice B ss.length cc], .int .i64 c] w (Endp w0 w pb mb cb (.int .i64 (m.store y 0).2) (m.store y 0).1) := by
  obtain ⟨M1, e1, hy⟩ : ∃ M1 e1, m.store y 0 = (M1, e1) := ⟨_, _, rfl⟩
  rw [hy]
  have HY := Lib.hid hy
  have HS := Lib.hid hs
  obtain ⟨W, hW⟩ : ∃ W : World, W = w.alloc (.cells #[.int .i64 top, .slice A ts.length ca, .slice B ss.length cc] 80) := ⟨_, rfl⟩
  have hb : Below w.heap.size w W := hW ▸ below_alloc (Below.refl _ _) _
  have hK : W.heap[w.heap.size]? = some (.cells #[.int .i64 top, .slice A ts.length ca, .slice B ss.length cc] 80 (0, 0)) := hW ▸ blk_new w _
  have h1 := h.below hb
  have hR1 := hR.below hb
  obtain ⟨k0, k1, k2⟩ := box3 hK
  have HW := Lib.hid hW
  have HF1 := Lib.hid (Fr.of_below hb mb cb)
  clear hW hb h hR hy hs hK
  go_enter Try.func62, Try.ntmps62
  go_upto_region 1 with fail
  rw [← HW.out]
  go_wp2_with fail
  refine (slot_calls hR1.a hR1.la top B ss.length cc c).mono ?_
  rw [HS.out]
  rintro e W2 ⟨rfl, hb2⟩
  have h2 := h1.below hb2
  have HF2 := Lib.hid (HF1.out.trans (Fr.of_below hb2 mb cb))
  clear hb2 h1 hR1 k0 k1 k2
  go_wp2_with fail
  refine (qStore h2 y 0).mono ?_
  rw [HY.out]
  rintro e W3 ⟨rfl, h3, hF⟩
  have HF3 := Lib.hid (HF2.out.trans hF)
  clear hF
  go_wp2_with fail
  go_ret
  exact ⟨rfl, h3, HF3.out⟩
set_option maxHeartbeats 1600000 in
set_option maxRecDepth 100000 in
theorem leave_no (h : St w0 w pb mb cb m) {base ca cc : Nat} {A B : Option Addr} {ts ss : List Int} (hR : RegAt w base A ca B cc ts ss) (top c : Int) {y : Int} (hs : slotOf ts c = (y, false)) :
    Calls Try.prog 62 #[ptr pb, .agg #[.int .i64 top, .slice A ts.length ca, .slice B ss.length cc], .int .i64 c] w (Endp w0 w pb mb cb (.int .i64 10) m) := by
  have HS := Lib.hid hs
  obtain ⟨W, hW⟩ : ∃ W : World, W = w.alloc (.cells #[.int .i64 top, .slice A ts.length ca, .slice B ss.length cc] 80) := ⟨_, rfl⟩
  have hb : Below w.heap.size w W := hW ▸ below_alloc (Below.refl _ _) _
  have hK : W.heap[w.heap.size]? = some (.cells #[.int .i64 top, .slice A ts.length ca, .slice B ss.length cc] 80 (0, 0)) := hW ▸ blk_new w _
  have h1 := h.below hb
  have hR1 := hR.below hb
  obtain ⟨k0, k1, k2⟩ := box3 hK
  have HW := Lib.hid hW
  have HF1 := Lib.hid (Fr.of_below hb mb cb)
  clear hW hb h hR hs hK
  go_enter Try.func62, Try.ntmps62
  go_upto_region 1 with fail
  rw [← HW.out]
  go_wp2_with fail
  refine (slot_calls hR1.a hR1.la top B ss.length cc c).mono ?_
  rw [HS.out]
  rintro e W2 ⟨rfl, hb2⟩
  have h2 := h1.below hb2
  have HF2 := Lib.hid (HF1.out.trans (Fr.of_below hb2 mb cb))
  clear hb2 h1 hR1 k0 k1 k2
  go_wp2_with fail
  go_ret
  exact ⟨rfl, h2, HF2.out⟩
set_option maxHeartbeats 1600000 in
set_option maxRecDepth 100000 in
theorem hold_ok (h : St w0 w pb mb cb m) {base ca cc : Nat} {A B : Option Addr} {ts ss : List Int} (hR : RegAt w base A ca B cc ts ss) (top c : Int) {y : Int} (hs : slotOf ts c = (y, true)) {v : Int} (hv0 : 0 ≤ v) (hv1 : v ≤ 1073741824) :
    Calls Try.prog 102 #[ptr pb, .agg #[.int .i64 top, .slice A ts.length ca, .slice B ss.length cc], .int .i64 c, .int .i64 v] w (Endp w0 w pb mb cb (.int .i64 (m.store y (v + 1)).2) (m.store y (v + 1)).1) := by
  obtain ⟨M1, e1, hy⟩ : ∃ M1 e1, m.store y (v + 1) = (M1, e1) := ⟨_, _, rfl⟩
  rw [hy]
  have HY := Lib.hid hy
  have HS := Lib.hid hs
  have g1 : decide (v < 0) = false := decide_eq_false (by omega)
  have g2 : decide (1073741824 < v) = false := decide_eq_false (by omega)
  clear hy hs
  obtain ⟨W, hW⟩ : ∃ W : World, W = w.alloc (.cells #[.int .i64 top, .slice A ts.length ca, .slice B ss.length cc] 80) := ⟨_, rfl⟩
  have hb : Below w.heap.size w W := hW ▸ below_alloc (Below.refl _ _) _
  have hK : W.heap[w.heap.size]? = some (.cells #[.int .i64 top, .slice A ts.length ca, .slice B ss.length cc] 80 (0, 0)) := hW ▸ blk_new w _
  have h1 := h.below hb
  have hR1 := hR.below hb
  obtain ⟨k0, k1, k2⟩ := box3 hK
  have HW := Lib.hid hW
  have HF1 := Lib.hid (Fr.of_below hb mb cb)
  clear hW hb h hR
  go_enter Try.func102, Try.ntmps102
  go_upto_region 1 with fail
  rw [← HW.out]
  go_wp2_with fail
  refine (slot_calls hR1.a hR1.la top B ss.length cc c).mono ?_
  rw [HS.out]
  rintro e W2 ⟨rfl, hb2⟩
  have h2 := h1.below hb2
  have hK2 := blk_below hK hb2
  have HF2 := Lib.hid (HF1.out.trans (Fr.of_below hb2 mb cb))
  clear hb2 h1 hR1 k0 k1 k2 hK
  go_wp2_with fail
  refine (qStore h2 y (v + 1)).mono ?_
  rw [HY.out]
  rintro e W3 ⟨rfl, h3, hF⟩
  have HF3 := Lib.hid (HF2.out.trans hF)
  clear hF
  go_wp2_with fail
  go_ret
  exact ⟨rfl, h3, HF3.out⟩
set_option maxHeartbeats 1600000 in
set_option maxRecDepth 100000 in
theorem enter_ok (h : St w0 w pb mb cb m) {base ca cc : Nat} {A B : Option Addr} {ts ss : List Int} (hR : RegAt w base A ca B cc ts ss) (top c : Int) {y : Int} (hs : slotOf ts c = (y, true)) {M1 M2 M3 : M} {v : Int} (hv0 : 0 ≤ v) (hv1 : v ≤ 4611686018427387904) (e1 : m.store y 1 = (M1, 0)) (o1 : M1.okd = true) (e2 : M1.version top = (M2, v, 0)) (e3 : M2.store y (v + 1) = (M3, 0)) :
    Calls Try.prog 60 #[ptr pb, .agg #[.int .i64 top, .slice A ts.length ca, .slice B ss.length cc], .int .i64 c] w (Endp w0 w pb mb cb (.tuple #[.int .i64 v, .int .i64 0]) M3) := by
  have HS := Lib.hid hs
  have E1 := Lib.hid e1
  have E2 := Lib.hid e2
  have E3 := Lib.hid e3
  clear hs e1 e2 e3
  obtain ⟨W, hW⟩ : ∃ W : World, W = w.alloc (.cells #[.int .i64 top, .slice A ts.length ca, .slice B ss.length cc] 80) := ⟨_, rfl⟩
  have hb : Below w.heap.size w W := hW ▸ below_alloc (Below.refl _ _) _
  have hK : W.heap[w.heap.size]? = some (.cells #[.int .i64 top, .slice A ts.length ca, .slice B ss.length cc] 80 (0, 0)) := hW ▸ blk_new w _
  have h1 := h.below hb
  have hR1 := hR.below hb
  obtain ⟨k0, k1, k2⟩ := box3 hK
  have HW := Lib.hid hW
  have HF1 := Lib.hid (Fr.of_below hb mb cb)
  clear hW hb h hR
  go_enter Try.func60, Try.ntmps60
  go_upto_region 1 with fail
  rw [← HW.out]
  go_wp2_with fail
  refine (slot_calls hR1.a hR1.la top B ss.length cc c).mono ?_
  rw [HS.out]
  rintro e W2 ⟨rfl, hb2⟩
  have h2 := h1.below hb2
  have hK2 := blk_below hK hb2
  have HF2 := Lib.hid (HF1.out.trans (Fr.of_below hb2 mb cb))
  clear hb2 h1 hR1 k0 k1 k2 hK
  obtain ⟨k0, k1, k2⟩ := box3 hK2
  go_wp2_with fail
  refine (qStore h2 y 1).mono ?_
  rw [E1.out]
  rintro e W3 ⟨rfl, h3, hF⟩
  have hK3 := hF.blk h2.A hK2 (by decide) (by decide)
  have HF3 := Lib.hid (HF2.out.trans hF)
  clear hF k0 k1 k2 hK2 h2
  obtain ⟨k0, k1, k2⟩ := box3 hK3
  go_wp2_with fail
  refine (version_calls h3 o1 top).mono ?_
  rw [E2.out]
  rintro e W4 ⟨rfl, h4, hF⟩
  have HF4 := Lib.hid (HF3.out.trans hF)
  clear hF k0 k1 k2 hK3 h3
  go_wp2_with fail
  refine (qStore h4 y (v + 1)).mono ?_
  rw [E3.out]
  rintro e W5 ⟨rfl, h5, hF⟩
  have HF5 := Lib.hid (HF4.out.trans hF)
  clear hF h4
  go_wp2_with fail
  go_ret2
  exact ⟨rfl, h5, HF5.out⟩
end
end Go.Proofs.Ytahnmklofgnagaa.Mem
