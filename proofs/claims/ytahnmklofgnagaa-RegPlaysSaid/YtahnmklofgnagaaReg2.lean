/- Registers, by a port that asks memory at once: slot, lowest. -/
import Derived.Test.YtahnmklofgnagaaReg1
namespace Go.Proofs.Ytahnmklofgnagaa.Mem
open Go.RowKit Go.Proofs.YtahnmklofgnagaaW.PrintWords Go.Proofs.YtahnmklofgnagaaW.PrintLast Go.Proofs.Ytahnmklofgnagaa.Tags
set_option linter.unusedVariables false
set_option linter.unusedSimpArgs false
section
variable {w0 w w' : World} {pb mb cb : Nat} {m m' : M}
def slotOf (ts : List Int) (c : Int) : Int × Bool := if c < 0 ∨ (ts.length : Int) ≤ c then (0, false) else (ts.getD c.toNat 0, true)
set_option maxHeartbeats 1600000 in
set_option maxRecDepth 100000 in
theorem slot_calls {base cp : Nat} {A : Option Addr} {ts : List Int} (hO : OwnI w base (.slice A ts.length cp) ts) (hl : ts.length ≤ 1000) (top : Int) (B : Option Addr) (n2 c2 : Nat) (c : Int) :
    Calls Try.prog 108 #[.agg #[.int .i64 top, .slice A ts.length cp, .slice B n2 c2], .int .i64 c] w fun e w' => e = .returned (.tuple #[.int .i64 (slotOf ts c).1, .bool (slotOf ts c).2]) ∧ Below w.heap.size w w' := by
  obtain ⟨y, b, hy⟩ : ∃ y b, slotOf ts c = (y, b) := ⟨_, _, rfl⟩
  rw [hy]
  unfold slotOf at hy
  obtain ⟨W, hW⟩ : ∃ W : World, W = w.alloc (.cells #[.int .i64 top, .slice A ts.length cp, .slice B n2 c2] 80) := ⟨_, rfl⟩
  have hb : Below w.heap.size w W := hW ▸ below_alloc (Below.refl _ _) _
  have hK : W.heap[w.heap.size]? = some (.cells #[.int .i64 top, .slice A ts.length cp, .slice B n2 c2] 80 (0, 0)) := hW ▸ blk_new w _
  obtain ⟨k0, k1, k2⟩ := box3 hK
  have HW := Lib.hid hW
  have HB := Lib.hid hb
  have hO1 := hO.below hb
  clear hW hK hb hO
  by_cases h1 : c < 0
  · rw [if_pos (Or.inl h1)] at hy
    injection hy with hy1 hy2
    subst hy1 hy2
    have g1 : decide (c < 0) = true := decide_eq_true h1
    go_enter Try.func108, Try.ntmps108
    go_upto_region 1 with fail
    rw [← HW.out]
    go_wp2_with fail
    go_ret2
    exact ⟨rfl, HB.out⟩
  · have g1 : decide (c < 0) = false := decide_eq_false h1
    obtain ⟨k, rfl⟩ : ∃ k : Nat, c = (k : Int) := ⟨c.toNat, by omega⟩
    by_cases h2 : ts.length ≤ k
    · rw [if_pos (Or.inr (by omega))] at hy
      injection hy with hy1 hy2
      subst hy1 hy2
      have g2 : decide (ts.length ≤ k) = true := decide_eq_true h2
      go_enter Try.func108, Try.ntmps108
      go_upto_region 1 with fail
      rw [← HW.out]
      go_wp2_with fail
      go_ret2
      exact ⟨rfl, HB.out⟩
    · have g2 : decide (ts.length ≤ k) = false := decide_eq_false h2
      rw [if_neg (by omega), Int.toNat_natCast] at hy
      injection hy with hy1 hy2
      obtain ⟨g, eg, hcell⟩ := hO1.cell k (by omega)
      rw [hy1] at hcell
      subst eg hy2
      have hk : k < ts.length := by omega
      clear hy1
      go_enter Try.func108, Try.ntmps108
      go_upto_region 1 with fail
      rw [← HW.out]
      go_wp2_with fail
      go_ret2
      exact ⟨rfl, HB.out⟩
/-- The lesser one of a number, and the version that a word tells. -/
def lowV (x z : Int) : Int := if 0 < z then (if wrap64 (z - 1) < x then wrap64 (z - 1) else x) else x
def M.lowest (m : M) (but mask : Int) : Int → List Int → M × Int × Int
  | n, [] => (m, n, 0)
  | n, h :: l => if h = but then M.lowest m but mask n l else if (m.word h).2.2 ≠ 0 then ((m.word h).1, 0, (m.word h).2.2) else M.lowest (m.word h).1 but mask (lowV n (bits .and .i64 (m.word h).2.1 mask)) l
set_option maxHeartbeats 3200000 in
set_option maxRecDepth 100000 in
theorem lowest_calls (h : St w0 w pb mb cb m) {base cp : Nat} {A : Option Addr} {ts : List Int} (hO : OwnI w base (.slice A ts.length cp) ts) (hl : ts.length ≤ 1000) (n but mask : Int) :
    Calls Try.prog 111 #[ptr pb, .int .i64 n, .slice A ts.length cp, .int .i64 but, .int .i64 mask] w (Endp w0 w pb mb cb (.tuple #[.int .i64 (m.lowest but mask n ts).2.1, .int .i64 (m.lowest but mask n ts).2.2]) (m.lowest but mask n ts).1) := by
  obtain ⟨M1, n1, e1, hy⟩ : ∃ M1 n1 e1, m.lowest but mask n ts = (M1, n1, e1) := ⟨_, _, _, rfl⟩
  rw [hy]
  have START := Lib.hid (show ∃ (k : Nat) (m : M) (x : Int), k ≤ ts.length ∧ Value.int .i64 0 = .int .i64 k ∧ Value.int .i64 n = .int .i64 x ∧ m.lowest but mask x (ts.drop k) = (M1, n1, e1) ∧ St w0 w pb mb cb m ∧ Fr w w mb cb ∧ OwnI w base (.slice A ts.length cp) ts from ⟨0, m, n, by omega, rfl, rfl, hy, h, Fr.refl _ _ _, hO⟩)
  clear hy h hO
  go_enter Try.func111, Try.ntmps111
  go_wp2_with fail
  go_loopw [1, 18] (fun v i wr => ∃ (k : Nat) (m : M) (x : Int), k ≤ ts.length ∧ i = .int .i64 k ∧ v = .int .i64 x ∧ m.lowest but mask x (ts.drop k) = (M1, n1, e1) ∧ St w0 wr pb mb cb m ∧ Fr w wr mb cb ∧ OwnI wr base (.slice A ts.length cp) ts) (fun _ i _ => ts.length - (intOf i).toNat)
  case atStart => exact START.out
  case round =>
    clear START
    obtain ⟨k, m, x, hk, rfl, rfl, hy, h, hF, hO⟩ := hrel
    by_cases hlt : k < ts.length
    · have g1 : decide (k < ts.length) = true := decide_eq_true hlt
      obtain ⟨g, eg, hcell⟩ := hO.cell k hlt
      have hdrop : ts.drop k = ts.getD k 0 :: ts.drop (k + 1) := by rw [List.getD_eq_getElem?_getD, List.getElem?_eq_getElem hlt]; exact List.drop_eq_getElem_cons hlt
      rw [hdrop] at hy
      unfold M.lowest at hy
      generalize ts.getD k 0 = y at *
      subst eg
      have HDR := Lib.hid hdrop
      clear hdrop
      by_cases hb : y = but
      · have g2 : (y == but) = true := by simpa using hb
        rw [if_pos hb] at hy
        have HB := Lib.hid hb
        have HY := Lib.hid hy
        clear hb hy
        go_wp2_with fail
        exact ⟨⟨k + 1, m, x, by omega, by go_num, rfl, HY.out, h, hF, hO⟩, by simp [intOf]; omega⟩
      · have g2 : (y == but) = false := by simpa using hb
        rw [if_neg hb] at hy
        clear hb
        go_wp2_with fail
        refine (qWord h y).mono ?_
        rintro e W1 ⟨rfl, h1, hF1⟩
        have hO1 := hO.fr h.A hF1
        have HF1 := Lib.hid (hF.trans hF1)
        generalize m.word y = r at *
        obtain ⟨M2, v, e⟩ := r
        simp only at h1 hy ⊢
        clear hcell hO h hF hF1
        by_cases he : e = 0
        · subst he
          rw [if_neg (by decide)] at hy
          have HY := Lib.hid hy
          clear hy
          by_cases hz : 0 < bits BinOp.and IntKind.i64 v mask
          · have g3 : decide (0 < bits BinOp.and IntKind.i64 v mask) = true := decide_eq_true hz
            have HZ := Lib.hid (show lowV x (bits BinOp.and IntKind.i64 v mask) = if wrap64 (bits BinOp.and IntKind.i64 v mask - 1) < x then wrap64 (bits BinOp.and IntKind.i64 v mask - 1) else x by unfold lowV; rw [if_pos hz])
            clear hz
            go_wp2_with fail
            exact ⟨⟨k + 1, M2, _, by omega, by go_num, rfl, by rw [← HZ.out]; exact HY.out, h1, HF1.out, hO1⟩, by simp [intOf]; omega⟩
          · have g3 : decide (0 < bits BinOp.and IntKind.i64 v mask) = false := decide_eq_false hz
            have HZ := Lib.hid (show lowV x (bits BinOp.and IntKind.i64 v mask) = x by unfold lowV; rw [if_neg hz])
            clear hz
            go_wp2_with fail
            exact ⟨⟨k + 1, M2, _, by omega, by go_num, rfl, by rw [← HZ.out]; exact HY.out, h1, HF1.out, hO1⟩, by simp [intOf]; omega⟩
        · have g3 : (e != 0) = true := by simpa using he
          rw [if_pos he] at hy
          injection hy with hy1 hy
          injection hy with hy2 hy3
          subst hy1 hy2 hy3
          go_wp2_with fail
          go_ret2
          exact ⟨rfl, h1, HF1.out⟩
    · have g1 : decide (k < ts.length) = false := decide_eq_false hlt
      rw [List.drop_of_length_le (by omega)] at hy
      unfold M.lowest at hy
      injection hy with hy1 hy
      injection hy with hy2 hy3
      subst hy1 hy2 hy3
      go_wp2_with fail
      go_ret2
      exact ⟨rfl, h, hF⟩
end
end Go.Proofs.Ytahnmklofgnagaa.Mem
