/- Ages and nodes, by a port that asks memory at once: Undo, Lift, Newest. -/
import Derived.Test.YtcfbjcadpcedhaaNode2
namespace Go.Proofs.Ytcfbjcadpcedhaa.Mem
open Go.RowKit Go.Proofs.YtcfbjcadpcedhaaW.PrintWords Go.Proofs.YtcfbjcadpcedhaaW.PrintLast Go.Proofs.Ytcfbjcadpcedhaa.Tags
set_option linter.unusedVariables false
set_option linter.unusedSimpArgs false
section
variable {w0 w w' : World} {pb mb cb : Nat} {m m' : M}
set_option maxHeartbeats 1600000 in
set_option maxRecDepth 100000 in
theorem nundo_ok (h : St w0 w pb mb cb m) {x : Int} {low : ByteArray} {head : Int} {A : Option Addr} {xs : List Int} {k : Nat} (hR : RdT w A xs) (hl : xs.length ≤ 900) (hv : m.val x = some (.iface 46 (Nd.v ⟨low, head, A, xs.length, k⟩))) :
    Calls Try.prog 35 #[ptr pb, .int .i64 x] w (Endp w0 w pb mb cb (.int .i64 (m.tick.ferr (x :: head :: xs) (x :: head :: xs).length)) (m.tick.frees (x :: head :: xs))) := by
  obtain ⟨us, hus⟩ : ∃ us, us = x :: head :: xs := ⟨_, rfl⟩
  rw [← hus]
  have hul : us.length ≤ 1000 := by rw [hus]; simp; omega
  have HUS := Lib.hid hus
  have HL := Lib.hid (nload_ok h hv)
  have HS := Lib.hid h
  clear hus hv h
  go_enter Try.func35, Try.ntmps35
  go_wp2_with fail
  refine HL.out.mono ?_
  rintro e W1 ⟨rfl, h1, hF⟩
  obtain ⟨W2, hW2⟩ : ∃ W2 : World, W2 = W1.alloc (nodC ⟨low, head, A, xs.length, k⟩) := ⟨_, rfl⟩
  have hb2 : Below W1.heap.size W1 W2 := hW2 ▸ below_alloc (Below.refl _ _) _
  obtain ⟨k0, k1, k2⟩ := box3 (show W2.heap[W1.heap.size]? = some (.cells #[.string low, .int .i64 head, .slice A xs.length k] 46 (0, 0)) from hW2 ▸ blk_new _ _)
  have h2 := h1.below hb2
  have hR2 := (hR.fr HS.out.A hF).below hb2
  have HF2 := Lib.hid (hF.trans (Fr.of_below hb2 mb cb))
  have HW2 := Lib.hid hW2
  clear hW2 hb2 h1 hF hR HL
  go_upto_region 2 with fail
  rw [← HW2.out]
  clear HW2
  go_wp2_with fail
  refine (own_calls low x head hR2 (by omega)).mono ?_
  rintro e W3 ⟨v, rfl, hO, hB⟩
  rw [← HUS.out] at hO
  obtain ⟨A3, c3, rfl⟩ := hO.slice
  have h3 := h2.below hB
  have hR3 := hO.rd (by omega)
  have HF3 := Lib.hid (HF2.out.trans (Fr.of_below hB mb cb))
  clear hO hB h2 hR2
  go_wp2_with fail
  refine (nfree_calls h3 hR3 hul).mono ?_
  obtain ⟨z, hz⟩ : ∃ z, m.tick.ferr us us.length = z := ⟨_, rfl⟩
  rw [hz]
  have HZ := Lib.hid hz
  clear hz
  rintro e W4 ⟨rfl, h4, hF⟩
  have HF4 := Lib.hid (HF3.out.trans hF)
  clear h3 hF
  go_wp2_with fail
  go_ret
  exact ⟨by first | rfl | (rw [HZ.out]; rfl), h4, HF4.out⟩
set_option maxHeartbeats 1600000 in
set_option maxRecDepth 100000 in
theorem nundo_no (h : St w0 w pb mb cb m) {x : Int} {e1 : Int} {M1 : M} (he : e1 ≠ 0) (hc : Calls Try.prog 32 #[ptr pb, .int .i64 x] w (Endp w0 w pb mb cb (.tuple #[Nd.z.v, .int .i64 e1]) M1)) :
    Calls Try.prog 35 #[ptr pb, .int .i64 x] w (Endp w0 w pb mb cb (.int .i64 e1) M1) := by
  have HC := Lib.hid hc
  have g1 : (e1 != 0) = true := by simpa using he
  clear hc
  go_enter Try.func35, Try.ntmps35
  go_wp2_with fail
  refine HC.out.mono ?_
  rintro e W1 ⟨rfl, h1, hF⟩
  have h2 := h1.alloc (nodC Nd.z)
  have HF2 := Lib.hid (hF.alloc (nodC Nd.z))
  clear h1 hF
  go_wp2_with fail
  go_ret
  exact ⟨rfl, h2, HF2.out⟩
abbrev ageC (a : Ag) : Obj := .cells #[.int .i64 a.ver, .int .i64 0, .string ⟨#[]⟩, .string ⟨#[]⟩, .bool false, .bool a.dead, .slice none 0 0, .slice none 0 0, .slice none 0 0, .slice none 0 0, .int .i64 a.prev] 52
set_option maxHeartbeats 1600000 in
set_option maxRecDepth 100000 in
theorem lift_ok (h : St w0 w pb mb cb m) {x : Int} {a : Ag} (hv : m.val x = some (.iface 52 a.v)) :
    Calls Try.prog 36 #[ptr pb, .int .i64 x] w (Endp w0 w pb mb cb (.int .i64 (m.tick.ferr [x, a.prev] 2)) (m.tick.frees [x, a.prev])) := by
  have HL := Lib.hid (take_ok h hv)
  clear hv h
  go_enter Try.func36, Try.ntmps36
  go_wp2_with fail
  refine HL.out.mono ?_
  rintro e W1 ⟨rfl, h1, hF⟩
  obtain ⟨W2, hW2⟩ : ∃ W2 : World, W2 = W1.alloc (ageC a) := ⟨_, rfl⟩
  have hb2 : Below W1.heap.size W1 W2 := hW2 ▸ below_alloc (Below.refl _ _) _
  obtain ⟨k0, k1, k2, k3, k4, k5, k6, k7, k8, k9, k10⟩ := box11 (show W2.heap[W1.heap.size]? = some (.cells #[.int .i64 a.ver, .int .i64 0, .string ⟨#[]⟩, .string ⟨#[]⟩, .bool false, .bool a.dead, .slice none 0 0, .slice none 0 0, .slice none 0 0, .slice none 0 0, .int .i64 a.prev] 52 (0, 0)) from hW2 ▸ blk_new _ _)
  have h2 := h1.below hb2
  have HF2 := Lib.hid (hF.trans (Fr.of_below hb2 mb cb))
  have HW2 := Lib.hid hW2
  clear hW2 hb2 h1 hF HL
  obtain ⟨W3, hW3⟩ : ∃ W3 : World, W3 = W2.alloc (.cells #[.int .i64 x, .int .i64 a.prev] 3) := ⟨_, rfl⟩
  have hb3 : Below W2.heap.size W2 W3 := hW3 ▸ below_alloc (Below.refl _ _) _
  have hc : W3.heap[W2.heap.size]? = some (.cells #[.int .i64 x, .int .i64 a.prev] 3 (0, 0)) := hW3 ▸ blk_new _ _
  have hr : RdT W3 (some ⟨W2.heap.size, 0, none⟩) [x, a.prev] := ⟨⟨rfl, by simp, fun _ => ⟨_, rfl, fun j hj => by
    rw [Addr.add_lit, Nat.zero_add]
    have hj' : j < 2 := hj
    rcases (show j = 0 ∨ j = 1 by omega) with rfl | rfl
    · exact (blk_cell hc 0).trans rfl
    · exact (blk_cell hc 1).trans rfl⟩⟩, fun ad e => by injection e with e; subst e; exact ⟨rfl, _, hc⟩⟩
  have h3 := h2.below hb3
  have HF3 := Lib.hid (HF2.out.trans (Fr.of_below hb3 mb cb))
  have HN := Lib.hid (nfree_calls (c := 2) h3 hr (by simp))
  have HW3 := Lib.hid hW3
  clear hW3 hb3 hc hr h2 HF2
  go_upto_region 2 with fail
  rw [← HW2.out]
  clear HW2
  go_wp2_with fail
  rw [← HW3.out]
  clear HW3
  refine HN.out.mono ?_
  obtain ⟨z, hz⟩ : ∃ z, m.tick.ferr [x, a.prev] 2 = z := ⟨_, rfl⟩
  rw [show [x, a.prev].length = 2 from rfl, hz]
  have HZ := Lib.hid hz
  clear hz
  rintro e W4 ⟨rfl, h4, hF⟩
  have HF4 := Lib.hid (HF3.out.trans hF)
  clear h3 hF
  go_wp2_with fail
  go_ret
  exact ⟨by first | rfl | (rw [HZ.out]; rfl), h4, HF4.out⟩
set_option maxHeartbeats 1600000 in
set_option maxRecDepth 100000 in
theorem lift_no (h : St w0 w pb mb cb m) {x : Int} {e1 : Int} {M1 : M} (he : e1 ≠ 0) (hc : Calls Try.prog 27 #[ptr pb, .int .i64 x] w (Endp w0 w pb mb cb (.tuple #[Ag.z.v, .int .i64 e1]) M1)) :
    Calls Try.prog 36 #[ptr pb, .int .i64 x] w (Endp w0 w pb mb cb (.int .i64 e1) M1) := by
  have HC := Lib.hid hc
  have g1 : (e1 != 0) = true := by simpa using he
  clear hc
  go_enter Try.func36, Try.ntmps36
  go_wp2_with fail
  refine HC.out.mono ?_
  rintro e W1 ⟨rfl, h1, hF⟩
  have h2 := h1.alloc (ageC Ag.z)
  have HF2 := Lib.hid (hF.alloc (ageC Ag.z))
  clear h1 hF
  go_wp2_with fail
  go_ret
  exact ⟨rfl, h2, HF2.out⟩
end
end Go.Proofs.Ytcfbjcadpcedhaa.Mem
