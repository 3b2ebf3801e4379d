/- Registers, by a port that asks memory at once: Open. -/
import Derived.Test.YtahnmklofgnagaaReg6
namespace Go.Proofs.Ytahnmklofgnagaa.Mem
open Go.RowKit Go.Proofs.YtahnmklofgnagaaW.PrintWords Go.Proofs.YtahnmklofgnagaaW.PrintLast Go.Proofs.Ytahnmklofgnagaa.Tags
set_option linter.unusedVariables false
set_option linter.unusedSimpArgs false
section
variable {w0 w w' : World} {pb mb cb : Nat} {m m' : M}
/-- May a place's word be taken? -/
def mayOpen (v : Int) : Bool := (bits BinOp.and IntKind.i64 v 4294967295 == 0) && decide (v / 4294967296 < 1073741823)
/-- Open, from the i-th place on. -/
def M.open : M → Int → Nat → List Int → M × Int × Int
  | m, _, _, [] => (m, 0, 3)
  | m, ver, i, h :: l => if (m.word h).2.2 ≠ 0 then ((m.word h).1, 0, (m.word h).2.2)
    else if mayOpen (m.word h).2.1 = true then
      (if ((m.word h).1.swap h (m.word h).2.1 ((m.word h).2.1 + ver + 1)).2.2 ≠ 0 then (((m.word h).1.swap h (m.word h).2.1 ((m.word h).2.1 + ver + 1)).1, 0, ((m.word h).1.swap h (m.word h).2.1 ((m.word h).2.1 + ver + 1)).2.2)
       else if ((m.word h).1.swap h (m.word h).2.1 ((m.word h).2.1 + ver + 1)).2.1 = true then (((m.word h).1.swap h (m.word h).2.1 ((m.word h).2.1 + ver + 1)).1, (m.word h).2.1 / 4294967296 * 64 + i, 0)
       else M.open ((m.word h).1.swap h (m.word h).2.1 ((m.word h).2.1 + ver + 1)).1 ver (i + 1) l)
    else M.open (m.word h).1 ver (i + 1) l
/-- Memory but for what is counted. -/
def Like (m' m : M) : Prop := m'.cells = m.cells ∧ m'.live = m.live
/-- The places' words are held, and are no negative numbers. -/
def Held (m : M) (ss vs : List Int) : Prop := vs.length = ss.length ∧ ∀ k, k < ss.length → 0 ≤ vs.getD k 0 ∧ vs.getD k 0 ≤ 4611686018427387904 ∧ ∀ m' : M, Like m' m → ∃ M1, m'.word (ss.getD k 0) = (M1, vs.getD k 0, 0) ∧ Like M1 m
/-- What Open comes to: the first place that may be taken, or none. -/
def OpenIn (w0 w : World) (pb mb cb : Nat) (m : M) (ss vs : List Int) (ver : Int) (e : Ending) (w' : World) : Prop :=
  Fr w w' mb cb ∧ ((∃ m' : M, Like m' m ∧ (∀ j, j < ss.length → mayOpen (vs.getD j 0) = false) ∧ e = .returned (.tuple #[.int .i64 0, .int .i64 3]) ∧ St w0 w' pb mb cb m') ∨
    ∃ (k : Nat) (m' : M), k < ss.length ∧ Like m' m ∧ (∀ j, j < k → mayOpen (vs.getD j 0) = false) ∧ mayOpen (vs.getD k 0) = true ∧ e = .returned (.tuple #[.int .i64 (vs.getD k 0 / 4294967296 * 64 + k), .int .i64 0]) ∧ St w0 w' pb mb cb (m'.swap (ss.getD k 0) (vs.getD k 0) (vs.getD k 0 + ver + 1)).1)
set_option maxHeartbeats 3200000 in
set_option maxRecDepth 100000 in
theorem open_calls (h : St w0 w pb mb cb m) {base ca cc : Nat} {A B : Option Addr} {ts ss vs : List Int} (hR : RegAt w base A ca B cc ts ss) (hH : Held m ss vs) (top ver : Int) (hv0 : 0 ≤ ver) (hv1 : ver ≤ 1073741824) (hsw : ∀ k, k < ss.length → ∀ m' : M, Like m' m → (m'.swap (ss.getD k 0) (vs.getD k 0) (vs.getD k 0 + ver + 1)).2 = (true, 0)) :
    Calls Try.prog 52 #[ptr pb, .agg #[.int .i64 top, .slice A ts.length ca, .slice B ss.length cc], .int .i64 ver] w (OpenIn w0 w pb mb cb m ss vs ver) := by
  obtain ⟨W, hW⟩ : ∃ W : World, W = w.alloc (.cells #[.int .i64 top, .slice A ts.length ca, .slice B ss.length cc] 80) := ⟨_, rfl⟩
  have hb : Below w.heap.size w W := hW ▸ below_alloc (Below.refl _ _) _
  have hK : W.heap[w.heap.size]? = some (.cells #[.int .i64 top, .slice A ts.length ca, .slice B ss.length cc] 80 (0, 0)) := hW ▸ blk_new w _
  have h1 := h.below hb
  have hR1 := hR.below hb
  obtain ⟨k0, k1, k2⟩ := box3 hK
  have HW := Lib.hid hW
  have HH := Lib.hid hH
  have HSW := Lib.hid hsw
  have hbl := hR1.lb
  have HF1 := Lib.hid (Fr.of_below hb mb cb)
  have g1 : decide (ver < 0) = false := decide_eq_false (by omega)
  have g2 : decide (1073741824 < ver) = false := decide_eq_false (by omega)
  clear hW hb h hR hH hsw
  go_enter Try.func52, Try.ntmps52
  go_upto_region 1 with fail
  rw [← HW.out]
  go_wp2_with fail
  go_loopw [22] (fun i wr => ∃ (k : Nat) (m' : M), k ≤ ss.length ∧ i = .int .i64 k ∧ Like m' m ∧ (∀ j, j < k → mayOpen (vs.getD j 0) = false) ∧ St w0 wr pb mb cb m' ∧ OwnI wr base (.slice B ss.length cc) ss ∧ Fr w wr mb cb) (fun i _ => ss.length - (intOf i).toNat)
  case atStart => exact ⟨0, m, by omega, rfl, ⟨rfl, rfl⟩, fun j hj => by omega, h1, hR1.b, HF1.out⟩
  case round =>
    clear h1 hR1 k0 k1 k2 HF1 hK
    obtain ⟨k, m', hk, rfl, hmc, hno, h, hO, hF⟩ := hrel
    have HNO := Lib.hid hno
    clear hno
    by_cases hlt : k < ss.length
    · have g3 : decide (k < ss.length) = true := decide_eq_true hlt
      obtain ⟨g, eg, hcell⟩ := hO.cell k hlt
      obtain ⟨hb0, hb1, hwd⟩ := HH.out.2 k hlt
      obtain ⟨M1, hw1, hw2⟩ := hwd m' hmc
      have hsk := HSW.out k hlt M1 hw2
      obtain ⟨x, hx⟩ : ∃ x, ss.getD k 0 = x := ⟨_, rfl⟩
      obtain ⟨v, hv⟩ : ∃ v, vs.getD k 0 = v := ⟨_, rfl⟩
      rw [hx] at hcell hw1 hsk
      rw [hv] at hw1 hb0 hb1 hsk
      subst eg
      have HW1 := Lib.hid hw1
      have HW2 := Lib.hid hw2
      have HX := Lib.hid hx
      have HVV := Lib.hid hv
      have HSK := Lib.hid hsk
      clear hwd hw1 hw2 hmc hx hv hsk
      have hstep : mayOpen v = false → ∀ j, j < k + 1 → mayOpen (vs.getD j 0) = false := fun hm j hj => by
        by_cases e : j = k
        · rw [e, HVV.out]; exact hm
        · exact HNO.out j (by omega)
      have HST := Lib.hid hstep
      clear hstep
      go_wp2_with fail
      refine (qWord h x).mono ?_
      rw [HW1.out]
      rintro e W2 ⟨rfl, h2, hF2⟩
      have hO2 := hO.fr h.A hF2
      have HF2 := Lib.hid (hF.trans hF2)
      clear hF hF2 h hO hcell
      by_cases hz : (bits BinOp.and IntKind.i64 v 4294967295 == 0) = true
      · have hz2 : (bits BinOp.and IntKind.i64 v 4294967295 != 0) = false := by simpa using hz
        by_cases hg : v / 4294967296 < 1073741823
        · have g4 : decide (1073741823 ≤ v / 4294967296) = false := decide_eq_false (by omega)
          have hm : mayOpen v = true := by unfold mayOpen; rw [hz, decide_eq_true hg]; rfl
          clear hz
          go_wp2_with fail
          refine (qSwap h2 x v (v + ver + 1)).mono ?_
          obtain ⟨M3, r2, hsq⟩ : ∃ M3 r2, M1.swap x v (v + ver + 1) = (M3, r2) := ⟨_, _, rfl⟩
          have hr2 : r2 = (true, 0) := by have := HSK.out; rw [hsq] at this; exact this
          rw [hsq, hr2]
          rintro e W3 ⟨rfl, h3, hF3⟩
          have FIN := Lib.hid (show OpenIn w0 w pb mb cb m ss vs ver (.returned (.tuple #[.int .i64 (v / 4294967296 * 64 + k), .int .i64 0])) W3 from ⟨HF2.out.trans hF3, Or.inr ⟨k, M1, hlt, HW2.out, HNO.out, by rw [HVV.out]; exact hm, by rw [HVV.out], by rw [HX.out, HVV.out, hsq]; exact h3⟩⟩)
          clear h3 hF3 hsq hr2
          go_wp2_with fail
          go_ret2
          exact FIN.out
        · have g4 : decide (1073741823 ≤ v / 4294967296) = true := decide_eq_true (by omega)
          have hm : mayOpen v = false := by unfold mayOpen; rw [hz, decide_eq_false hg]; rfl
          clear hz
          go_wp2_with fail
          exact ⟨⟨k + 1, M1, by omega, by go_num, HW2.out, HST.out hm, h2, hO2, HF2.out⟩, by simp [intOf]; omega⟩
      · have hz2 : (bits BinOp.and IntKind.i64 v 4294967295 != 0) = true := by simpa using hz
        have hm : mayOpen v = false := by unfold mayOpen; rw [Bool.eq_false_iff.2 hz]; rfl
        clear hz
        go_wp2_with fail
        exact ⟨⟨k + 1, M1, by omega, by go_num, HW2.out, HST.out hm, h2, hO2, HF2.out⟩, by simp [intOf]; omega⟩
    · obtain rfl : k = ss.length := by omega
      have g3 : decide (ss.length < ss.length) = false := decide_eq_false (by omega)
      have FIN := Lib.hid (show OpenIn w0 w pb mb cb m ss vs ver (.returned (.tuple #[.int .i64 0, .int .i64 3])) wr from ⟨hF, Or.inl ⟨m', hmc, HNO.out, rfl, h⟩⟩)
      clear hmc h hO hF
      go_wp2_with fail
      go_ret2
      exact FIN.out
end
end Go.Proofs.Ytahnmklofgnagaa.Mem
