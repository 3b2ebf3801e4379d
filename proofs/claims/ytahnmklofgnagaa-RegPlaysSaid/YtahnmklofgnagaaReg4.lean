/- Registers, by a port that asks memory at once: place. -/
import Derived.Test.YtahnmklofgnagaaReg3
import Derived.IntWalk
namespace Go.Proofs.Ytahnmklofgnagaa.Mem
open Go.RowKit Go.Proofs.YtahnmklofgnagaaW.PrintWords Go.Proofs.YtahnmklofgnagaaW.PrintLast Go.Proofs.Ytahnmklofgnagaa.Tags
set_option linter.unusedVariables false
set_option linter.unusedSimpArgs false
section
variable {w0 w w' : World} {pb mb cb : Nat} {m m' : M}
set_option maxHeartbeats 3200000 in
set_option maxRecDepth 100000 in
theorem place_out (h : St w0 w pb mb cb m) {base ca cc : Nat} {A B : Option Addr} {ts ss : List Int} (top id : Int) (hid : id < 0 ∨ (0 ≤ id ∧ (ss.length : Int) ≤ id % 64)) (hl : ss.length ≤ 1000) :
    Calls Try.prog 98 #[ptr pb, .agg #[.int .i64 top, .slice A ts.length ca, .slice B ss.length cc], .int .i64 id] w (Endp w0 w pb mb cb (.tuple #[.int .i64 0, .int .i64 0, .int .i64 2]) m) := by
  obtain ⟨W, hW⟩ : ∃ W : World, W = w.alloc (.cells #[.int .i64 top, .slice A ts.length ca, .slice B ss.length cc] 80) := ⟨_, rfl⟩
  have hb : Below w.heap.size w W := hW ▸ below_alloc (Below.refl _ _) _
  have hK : W.heap[w.heap.size]? = some (.cells #[.int .i64 top, .slice A ts.length ca, .slice B ss.length cc] 80 (0, 0)) := hW ▸ blk_new w _
  have h1 := h.below hb
  obtain ⟨k0, k1, k2⟩ := box3 hK
  have HW := Lib.hid hW
  have HF1 := Lib.hid (Fr.of_below hb mb cb)
  clear hW hb h hK
  rcases hid with h0 | ⟨h0, h2⟩
  · have g1 : decide (id < 0) = true := decide_eq_true h0
    go_enter Try.func98, Try.ntmps98
    go_upto_region 1 with fail
    rw [← HW.out]
    go_wp2_with fail
    go_ret3
    exact ⟨rfl, h1, HF1.out⟩
  · have g1 : decide (id < 0) = false := decide_eq_false (by omega)
    have g2 : decide ((ss.length : Int) ≤ id % 64) = true := decide_eq_true h2
    go_enter Try.func98, Try.ntmps98
    go_upto_region 1 with fail
    rw [← HW.out]
    go_wp2_with fail
    go_ret3
    exact ⟨rfl, h1, HF1.out⟩
/-- What a word tells of an id: is it that of an open snapshot? -/
def isOpen (v q : Int) : Bool := !(bits BinOp.and IntKind.i64 v 4294967295 == 0) && (v / 4294967296 == q)
set_option maxHeartbeats 3200000 in
set_option maxRecDepth 100000 in
theorem place_in (h : St w0 w pb mb cb m) {base ca cc : Nat} {A B : Option Addr} {ts ss : List Int} (hR : RegAt w base A ca B cc ts ss) (top : Int) (q k : Nat) (hq : q ≤ 144115188075855871) (hk : k < ss.length) (hk2 : k < 64) {M1 : M} {x v : Int} (hx : ss.getD k 0 = x) (hv : m.word x = (M1, v, 0)) :
    Calls Try.prog 98 #[ptr pb, .agg #[.int .i64 top, .slice A ts.length ca, .slice B ss.length cc], .int .i64 ((q * 64 + k : Nat) : Int)] w (Endp w0 w pb mb cb (.tuple #[.int .i64 (if isOpen v q = true then x else 0), .int .i64 (if isOpen v q = true then v else 0), .int .i64 (if isOpen v q = true then 0 else 2)]) M1) := by
  obtain ⟨R, hRes⟩ : ∃ R : Value, R = .tuple #[.int .i64 (if isOpen v q = true then x else 0), .int .i64 (if isOpen v q = true then v else 0), .int .i64 (if isOpen v q = true then 0 else 2)] := ⟨_, rfl⟩
  rw [← hRes]
  obtain ⟨W, hW⟩ : ∃ W : World, W = w.alloc (.cells #[.int .i64 top, .slice A ts.length ca, .slice B ss.length cc] 80) := ⟨_, rfl⟩
  have hb : Below w.heap.size w W := hW ▸ below_alloc (Below.refl _ _) _
  have hK : W.heap[w.heap.size]? = some (.cells #[.int .i64 top, .slice A ts.length ca, .slice B ss.length cc] 80 (0, 0)) := hW ▸ blk_new w _
  have h1 := h.below hb
  have hR1 := hR.below hb
  obtain ⟨g, eg, hcell⟩ := hR1.b.cell k hk
  rw [hx] at hcell
  subst eg
  obtain ⟨k0, k1, k2⟩ := box3 hK
  have HV := Lib.hid hv
  have HW := Lib.hid hW
  have HF1 := Lib.hid (Fr.of_below hb mb cb)
  obtain ⟨id, hid⟩ : ∃ id : Int, ((q * 64 + k : Nat) : Int) = id := ⟨_, rfl⟩
  have r1 : id % 64 = (k : Int) := by omega
  have r0 : 0 ≤ id := by omega
  have rt : wrap64 (id.tdiv 64) = (q : Int) := by
    rw [Int.tdiv_eq_ediv_of_nonneg r0, show id / 64 = (q : Int) by omega]
    exact IntWalk.wrap64_in _ ⟨by omega, by omega⟩
  have g1 : decide (id < 0) = false := decide_eq_false (by omega)
  have g2 : decide (ss.length ≤ k) = false := decide_eq_false (by omega)
  rw [hid]
  have HR1 := Lib.hid r1
  have HRT := Lib.hid rt
  clear hW hb h hK hR hx hv hid rt
  by_cases hz : (bits BinOp.and IntKind.i64 v 4294967295 == 0) = true
  · have ho : isOpen v q = false := by unfold isOpen; rw [hz]; rfl
    rw [ho] at hRes
    simp only [Bool.false_eq_true, if_false] at hRes
    subst hRes
    go_enter Try.func98, Try.ntmps98
    go_upto_region 1 with fail
    rw [← HW.out]
    go_wp2_with fail
    refine (qWord h1 x).mono ?_
    rw [HV.out]
    rintro e W2 ⟨rfl, h2, hF⟩
    have HF2 := Lib.hid (HF1.out.trans hF)
    clear hF
    go_wp2_with fail
    go_ret3
    exact ⟨rfl, h2, HF2.out⟩
  · have hz' : (bits BinOp.and IntKind.i64 v 4294967295 == 0) = false := by simpa using hz
    by_cases hq2 : v / 4294967296 = (q : Int)
    · have ho : isOpen v q = true := by unfold isOpen; rw [hz', hq2]; simp
      have g3 : (v / 4294967296 != wrap64 (id.tdiv 64)) = false := by rw [HRT.out, hq2]; simp
      rw [ho] at hRes
      simp only [if_true] at hRes
      subst hRes
      clear hz hq2
      go_enter Try.func98, Try.ntmps98
      go_upto_region 1 with fail
      rw [← HW.out]
      go_wp2_with fail
      refine (qWord h1 x).mono ?_
      rw [HV.out]
      rintro e W2 ⟨rfl, h2, hF⟩
      have HF2 := Lib.hid (HF1.out.trans hF)
      clear hF
      go_wp2_with fail
      go_ret3
      exact ⟨rfl, h2, HF2.out⟩
    · have ho : isOpen v q = false := by unfold isOpen; rw [hz']; simp [hq2]
      have g3 : (v / 4294967296 != wrap64 (id.tdiv 64)) = true := by rw [HRT.out]; simp [hq2]
      rw [ho] at hRes
      simp only [Bool.false_eq_true, if_false] at hRes
      subst hRes
      clear hz hq2
      go_enter Try.func98, Try.ntmps98
      go_upto_region 1 with fail
      rw [← HW.out]
      go_wp2_with fail
      refine (qWord h1 x).mono ?_
      rw [HV.out]
      rintro e W2 ⟨rfl, h2, hF⟩
      have HF2 := Lib.hid (HF1.out.trans hF)
      clear hF
      go_wp2_with fail
      go_ret3
      exact ⟨rfl, h2, HF2.out⟩
end
end Go.Proofs.Ytahnmklofgnagaa.Mem
