/- Registers, by a port that asks memory at once: Find, Close. -/
import Derived.Test.YtahnmklofgnagaaReg4
namespace Go.Proofs.Ytahnmklofgnagaa.Mem
open Go.RowKit Go.Proofs.YtahnmklofgnagaaW.PrintWords Go.Proofs.YtahnmklofgnagaaW.PrintLast Go.Proofs.Ytahnmklofgnagaa.Tags
set_option linter.unusedVariables false
set_option linter.unusedSimpArgs false
section
variable {w0 w w' : World} {pb mb cb : Nat} {m m' : M}
/-- What place answered, handed on by Find. -/
theorem find_of (h : St w0 w pb mb cb m) {ca cc na nb : Nat} {A B : Option Addr} (top id : Int) {M1 : M} {x v e1 : Int} (hp : ∀ W, Below w.heap.size w W → Calls Try.prog 98 #[ptr pb, .agg #[.int .i64 top, .slice A na ca, .slice B nb cc], .int .i64 id] W (Endp w0 W pb mb cb (.tuple #[.int .i64 x, .int .i64 v, .int .i64 e1]) M1)) :
    Calls Try.prog 54 #[ptr pb, .agg #[.int .i64 top, .slice A na ca, .slice B nb cc], .int .i64 id] w (Endp w0 w pb mb cb (.tuple #[.int .i64 (if e1 = 0 then wrap64 (bits BinOp.and IntKind.i64 v 4294967295 - 1) else 0), .int .i64 e1]) M1) := by
  obtain ⟨R, hRes⟩ : ∃ R : Value, R = .tuple #[.int .i64 (if e1 = 0 then wrap64 (bits BinOp.and IntKind.i64 v 4294967295 - 1) else 0), .int .i64 e1] := ⟨_, rfl⟩
  rw [← hRes]
  obtain ⟨W, hW⟩ : ∃ W : World, W = w.alloc (.cells #[.int .i64 top, .slice A na ca, .slice B nb cc] 80) := ⟨_, rfl⟩
  have hb : Below w.heap.size w W := hW ▸ below_alloc (Below.refl _ _) _
  have hK : W.heap[w.heap.size]? = some (.cells #[.int .i64 top, .slice A na ca, .slice B nb cc] 80 (0, 0)) := hW ▸ blk_new w _
  have HP := Lib.hid (hp W hb)
  obtain ⟨k0, k1, k2⟩ := box3 hK
  have HW := Lib.hid hW
  have HF1 := Lib.hid (Fr.of_below hb mb cb)
  clear hW hb h hK hp
  by_cases he : e1 = 0
  · subst he
    rw [if_pos rfl] at hRes
    subst hRes
    go_enter Try.func54, Try.ntmps54
    go_upto_region 1 with fail
    rw [← HW.out]
    go_wp2_with fail
    refine HP.out.mono ?_
    rintro e W2 ⟨rfl, h2, hF⟩
    have HF2 := Lib.hid (HF1.out.trans hF)
    clear hF
    go_wp2_with fail
    go_ret2
    exact ⟨rfl, h2, HF2.out⟩
  · have g1 : (e1 != 0) = true := by simpa using he
    rw [if_neg he] at hRes
    subst hRes
    go_enter Try.func54, Try.ntmps54
    go_upto_region 1 with fail
    rw [← HW.out]
    go_wp2_with fail
    refine HP.out.mono ?_
    rintro e W2 ⟨rfl, h2, hF⟩
    have HF2 := Lib.hid (HF1.out.trans hF)
    clear hF
    go_wp2_with fail
    go_ret2
    exact ⟨rfl, h2, HF2.out⟩
/-- What place refuses, Close refuses. -/
theorem close_no (h : St w0 w pb mb cb m) {ca cc na nb : Nat} {A B : Option Addr} (top id : Int) {M1 : M} {x v e1 : Int} (he : e1 ≠ 0) (hp : ∀ W, Below w.heap.size w W → Calls Try.prog 98 #[ptr pb, .agg #[.int .i64 top, .slice A na ca, .slice B nb cc], .int .i64 id] W (Endp w0 W pb mb cb (.tuple #[.int .i64 x, .int .i64 v, .int .i64 e1]) M1)) :
    Calls Try.prog 53 #[ptr pb, .agg #[.int .i64 top, .slice A na ca, .slice B nb cc], .int .i64 id] w (Endp w0 w pb mb cb (.int .i64 e1) M1) := by
  obtain ⟨W, hW⟩ : ∃ W : World, W = w.alloc (.cells #[.int .i64 top, .slice A na ca, .slice B nb cc] 80) := ⟨_, rfl⟩
  have hb : Below w.heap.size w W := hW ▸ below_alloc (Below.refl _ _) _
  have hK : W.heap[w.heap.size]? = some (.cells #[.int .i64 top, .slice A na ca, .slice B nb cc] 80 (0, 0)) := hW ▸ blk_new w _
  have HP := Lib.hid (hp W hb)
  obtain ⟨k0, k1, k2⟩ := box3 hK
  have HW := Lib.hid hW
  have HF1 := Lib.hid (Fr.of_below hb mb cb)
  have g1 : (e1 != 0) = true := by simpa using he
  clear hW hb h hK hp
  go_enter Try.func53, Try.ntmps53
  go_upto_region 1 with fail
  rw [← HW.out]
  go_wp2_with fail
  refine HP.out.mono ?_
  rintro e W2 ⟨rfl, h2, hF⟩
  have HF2 := Lib.hid (HF1.out.trans hF)
  clear hF
  go_wp2_with fail
  go_ret
  exact ⟨rfl, h2, HF2.out⟩
/-- An open snapshot's word becomes that of its place's next generation. -/
theorem close_ok (h : St w0 w pb mb cb m) {ca cc na nb : Nat} {A B : Option Addr} (top id : Int) {M1 M2 : M} {x v : Int} (hv0 : 0 ≤ v) (hv1 : v ≤ 4611686018427387904) (hp : ∀ W, Below w.heap.size w W → Calls Try.prog 98 #[ptr pb, .agg #[.int .i64 top, .slice A na ca, .slice B nb cc], .int .i64 id] W (Endp w0 W pb mb cb (.tuple #[.int .i64 x, .int .i64 v, .int .i64 0]) M1))
    (hs : M1.swap x v ((v / 4294967296 + 1) * 4294967296) = (M2, true, 0)) :
    Calls Try.prog 53 #[ptr pb, .agg #[.int .i64 top, .slice A na ca, .slice B nb cc], .int .i64 id] w (Endp w0 w pb mb cb (.int .i64 0) M2) := by
  obtain ⟨W, hW⟩ : ∃ W : World, W = w.alloc (.cells #[.int .i64 top, .slice A na ca, .slice B nb cc] 80) := ⟨_, rfl⟩
  have hb : Below w.heap.size w W := hW ▸ below_alloc (Below.refl _ _) _
  have hK : W.heap[w.heap.size]? = some (.cells #[.int .i64 top, .slice A na ca, .slice B nb cc] 80 (0, 0)) := hW ▸ blk_new w _
  have HP := Lib.hid (hp W hb)
  have HS := Lib.hid hs
  obtain ⟨k0, k1, k2⟩ := box3 hK
  have HW := Lib.hid hW
  have HF1 := Lib.hid (Fr.of_below hb mb cb)
  clear hW hb h hK hp hs
  go_enter Try.func53, Try.ntmps53
  go_upto_region 1 with fail
  rw [← HW.out]
  go_wp2_with fail
  refine HP.out.mono ?_
  rintro e W2 ⟨rfl, h2, hF⟩
  have HF2 := Lib.hid (HF1.out.trans hF)
  clear hF
  go_wp2_with fail
  refine (qSwap h2 x v ((v / 4294967296 + 1) * 4294967296)).mono ?_
  rw [HS.out]
  rintro e W3 ⟨rfl, h3, hF⟩
  have HF3 := Lib.hid (HF2.out.trans hF)
  clear hF
  go_wp2_with fail
  go_ret
  exact ⟨rfl, h3, HF3.out⟩
end
end Go.Proofs.Ytahnmklofgnagaa.Mem
