/- Registers, by a port that asks memory at once: Least, Oldest. -/
import Derived.Test.YtahnmklofgnagaaReg2
namespace Go.Proofs.Ytahnmklofgnagaa.Mem
open Go.RowKit Go.Proofs.YtahnmklofgnagaaW.PrintWords Go.Proofs.YtahnmklofgnagaaW.PrintLast Go.Proofs.Ytahnmklofgnagaa.Tags
set_option linter.unusedVariables false
set_option linter.unusedSimpArgs false
section
variable {w0 w w' : World} {pb mb cb : Nat} {m m' : M}
/-- A register's value, with its slots and places in memory. -/
structure RegAt (w : World) (base : Nat) (A : Option Addr) (ca : Nat) (B : Option Addr) (cb : Nat) (ts ss : List Int) : Prop where
  a : OwnI w base (.slice A ts.length ca) ts
  b : OwnI w base (.slice B ss.length cb) ss
  la : ts.length ≤ 1000
  lb : ss.length ≤ 1000
theorem RegAt.fr {base ca cc : Nat} {A B : Option Addr} {ts ss : List Int} (h : RegAt w base A ca B cc ts ss) (hA : At w mb cb m) (hF : Fr w w' mb cb) : RegAt w' base A ca B cc ts ss := ⟨h.a.fr hA hF, h.b.fr hA hF, h.la, h.lb⟩
theorem RegAt.below {base ca cc : Nat} {A B : Option Addr} {ts ss : List Int} (h : RegAt w base A ca B cc ts ss) (hb : Below w.heap.size w w') : RegAt w' base A ca B cc ts ss := ⟨h.a.below hb, h.b.below hb, h.la, h.lb⟩
def MASK : Int := 4294967295
def M.oldest (m : M) (ts : List Int) (c : Int) : M × Int × Int := m.lowest (slotOf ts c).1 4294967295 1073741825 ts
set_option maxHeartbeats 3200000 in
set_option maxRecDepth 100000 in
theorem oldest_calls (h : St w0 w pb mb cb m) {base ca cc : Nat} {A B : Option Addr} {ts ss : List Int} (hR : RegAt w base A ca B cc ts ss) (top c : Int) :
    Calls Try.prog 94 #[ptr pb, .agg #[.int .i64 top, .slice A ts.length ca, .slice B ss.length cc], .int .i64 c] w (Endp w0 w pb mb cb (.tuple #[.int .i64 (m.oldest ts c).2.1, .int .i64 (m.oldest ts c).2.2]) (m.oldest ts c).1) := by
  obtain ⟨M1, n1, e1, hy⟩ : ∃ M1 n1 e1, m.oldest ts c = (M1, n1, e1) := ⟨_, _, _, rfl⟩
  rw [hy]
  unfold M.oldest at hy
  obtain ⟨W, hW⟩ : ∃ W : World, W = w.alloc (.cells #[.int .i64 top, .slice A ts.length ca, .slice B ss.length cc] 80) := ⟨_, rfl⟩
  have hb : Below w.heap.size w W := hW ▸ below_alloc (Below.refl _ _) _
  have hK : W.heap[w.heap.size]? = some (.cells #[.int .i64 top, .slice A ts.length ca, .slice B ss.length cc] 80 (0, 0)) := hW ▸ blk_new w _
  have h1 := h.below hb
  have hR1 := hR.below hb
  obtain ⟨k0, k1, k2⟩ := box3 hK
  have HW := Lib.hid hW
  have HF1 := Lib.hid (Fr.of_below hb mb cb)
  clear hW hb h hR
  go_enter Try.func94, Try.ntmps94
  go_upto_region 1 with fail
  rw [← HW.out]
  go_wp2_with fail
  refine (slot_calls hR1.a hR1.la top B ss.length cc c).mono ?_
  rintro e W2 ⟨rfl, hb2⟩
  obtain ⟨q0, q1, q2⟩ := box3 (blk_below hK hb2)
  have h2 := h1.below hb2
  have hR2 := hR1.below hb2
  have HF2 := Lib.hid (HF1.out.trans (Fr.of_below hb2 mb cb))
  generalize slotOf ts c = sl at *
  obtain ⟨y, b⟩ := sl
  simp only at hy ⊢
  have HY := Lib.hid hy
  clear hy k0 k1 k2 hK h1 hR1 hb2 HF1
  go_wp2_with fail
  refine (lowest_calls h2 hR2.a hR2.la 1073741825 y 4294967295).mono ?_
  rw [HY.out]
  rintro e W3 ⟨rfl, h3, hF⟩
  have HF3 := Lib.hid (HF2.out.trans hF)
  clear hF h2 hR2 q0 q1 q2
  go_wp2_with fail
  go_ret2
  exact ⟨rfl, h3, HF3.out⟩
def M.low (r : M × Int × Int) (but : Int) (l : List Int) : M × Int × Int := if r.2.2 ≠ 0 then (r.1, 0, r.2.2) else r.1.lowest but 4294967295 r.2.1 l
def M.least (m : M) (top : Int) (ts ss : List Int) (c : Int) : M × Int × Int := M.low (M.low (M.low (m.version top) (slotOf ts c).1 ts) (slotOf ts c).1 ss) (slotOf ts c).1 ts
set_option maxHeartbeats 3200000 in
set_option maxRecDepth 100000 in
theorem least_ok (h : St w0 w pb mb cb m) (ho : m.okd = true) {base ca cc : Nat} {A B : Option Addr} {ts ss : List Int} (hR : RegAt w base A ca B cc ts ss) (top c : Int) {M1 M2 M3 M4 : M} {n1 n2 n3 n4 : Int}
    (e1 : m.version top = (M1, n1, 0)) (e2 : M1.lowest (slotOf ts c).1 4294967295 n1 ts = (M2, n2, 0)) (e3 : M2.lowest (slotOf ts c).1 4294967295 n2 ss = (M3, n3, 0)) (e4 : M3.lowest (slotOf ts c).1 4294967295 n3 ts = (M4, n4, 0)) :
    Calls Try.prog 66 #[ptr pb, .agg #[.int .i64 top, .slice A ts.length ca, .slice B ss.length cc], .int .i64 c] w (Endp w0 w pb mb cb (.tuple #[.int .i64 n4, .int .i64 0]) M4) := by
  obtain ⟨W, hW⟩ : ∃ W : World, W = w.alloc (.cells #[.int .i64 top, .slice A ts.length ca, .slice B ss.length cc] 80) := ⟨_, rfl⟩
  have hb : Below w.heap.size w W := hW ▸ below_alloc (Below.refl _ _) _
  have hK : W.heap[w.heap.size]? = some (.cells #[.int .i64 top, .slice A ts.length ca, .slice B ss.length cc] 80 (0, 0)) := hW ▸ blk_new w _
  have h1 := h.below hb
  have hR1 := hR.below hb
  obtain ⟨k0, k1, k2⟩ := box3 hK
  have HW := Lib.hid hW
  have HF1 := Lib.hid (Fr.of_below hb mb cb)
  clear hW hb h hR
  go_enter Try.func66, Try.ntmps66
  go_upto_region 1 with fail
  rw [← HW.out]
  go_wp2_with fail
  refine (slot_calls hR1.a hR1.la top B ss.length cc c).mono ?_
  rintro e W2 ⟨rfl, hb2⟩
  have hK2 := blk_below hK hb2
  obtain ⟨q0, q1, q2⟩ := box3 hK2
  have h2 := h1.below hb2
  have hR2 := hR1.below hb2
  have HF2 := Lib.hid (HF1.out.trans (Fr.of_below hb2 mb cb))
  generalize slotOf ts c = sl at *
  obtain ⟨y, b⟩ := sl
  simp only at e2 e3 e4 ⊢
  have E1 := Lib.hid e1
  have E2 := Lib.hid e2
  have E3 := Lib.hid e3
  have E4 := Lib.hid e4
  clear e1 e2 e3 e4 k0 k1 k2 hK h1 hR1 hb2 HF1
  go_wp2_with fail
  refine (version_calls h2 ho top).mono ?_
  rw [E1.out]
  rintro e W3 ⟨rfl, h3, hF⟩
  have hK3 := hF.blk h2.A hK2 (by decide) (by decide)
  have hR3 := hR2.fr h2.A hF
  have HF3 := Lib.hid (HF2.out.trans hF)
  clear hF h2 hR2 q0 q1 q2 hK2
  obtain ⟨q0, q1, q2⟩ := box3 hK3
  obtain ⟨W4, hW4⟩ : ∃ W4 : World, W4 = W3.alloc (.cells #[.slice A ts.length ca, .slice B ss.length cc, .slice A ts.length ca] 25) := ⟨_, rfl⟩
  have hb : Below W3.heap.size W3 W4 := hW4 ▸ below_alloc (Below.refl _ _) _
  have hX : W4.heap[W3.heap.size]? = some (.cells #[.slice A ts.length ca, .slice B ss.length cc, .slice A ts.length ca] 25 (0, 0)) := hW4 ▸ blk_new W3 _
  have h4 := h3.below hb
  have hR4 := hR3.below hb
  have HF4 := Lib.hid (HF3.out.trans (Fr.of_below hb mb cb))
  have HW4 := Lib.hid hW4
  clear hW4 hb h3 hR3 hK3 HF3
  go_wp2_with fail
  rw [← HW4.out]
  clear HW4
  refine wp_loop_rounds 4 ?_
  rw [rounds_succ]
  obtain ⟨q0, q1, q2⟩ := box3 hX
  go_wp2_with fail
  refine (lowest_calls h4 hR4.a hR4.la n1 y 4294967295).mono ?_
  rw [E2.out]
  rintro e W5 ⟨rfl, h5, hF⟩
  have hX5 := hF.blk h4.A hX (by decide) (by decide)
  have hR5 := hR4.fr h4.A hF
  have HF5 := Lib.hid (HF4.out.trans hF)
  clear hF h4 hR4 q0 q1 q2 hX HF4
  have hX := hX5
  clear hX5
  go_wp2_with fail
  rw [rounds_succ]
  obtain ⟨q0, q1, q2⟩ := box3 hX
  go_wp2_with fail
  refine (lowest_calls h5 hR5.b hR5.lb n2 y 4294967295).mono ?_
  rw [E3.out]
  rintro e W6 ⟨rfl, h6, hF⟩
  have hX6 := hF.blk h5.A hX (by decide) (by decide)
  have hR6 := hR5.fr h5.A hF
  have HF6 := Lib.hid (HF5.out.trans hF)
  clear hF h5 hR5 q0 q1 q2 hX HF5
  have hX := hX6
  clear hX6
  go_wp2_with fail
  rw [rounds_succ]
  obtain ⟨q0, q1, q2⟩ := box3 hX
  go_wp2_with fail
  refine (lowest_calls h6 hR6.a hR6.la n3 y 4294967295).mono ?_
  rw [E4.out]
  rintro e W7 ⟨rfl, h7, hF⟩
  have hX7 := hF.blk h6.A hX (by decide) (by decide)
  have hR7 := hR6.fr h6.A hF
  have HF7 := Lib.hid (HF6.out.trans hF)
  clear hF h6 hR6 q0 q1 q2 hX HF6
  have hX := hX7
  clear hX7
  go_wp2_with fail
  rw [rounds_succ]
  go_wp2_with fail
  go_ret2
  exact ⟨rfl, h7, HF7.out⟩
end
end Go.Proofs.Ytahnmklofgnagaa.Mem
