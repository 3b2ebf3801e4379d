/- Registers of the program and of the document: what is refused, New, alike (plain), what befalls a register. -/
import Derived.Test.YtahnmklofgnagaaReg7
import Derived.Test.YtahnmklofgnagaaRef15g
namespace Go.Proofs.Ytahnmklofgnagaa.Mem
open Go.RowKit Go.Proofs.YtahnmklofgnagaaW.PrintWords Go.Proofs.YtahnmklofgnagaaW.PrintLast Go.Proofs.Ytahnmklofgnagaa.Tags
set_option linter.unusedVariables false
set_option linter.unusedSimpArgs false
section
variable {w0 w w' : World} {pb mb cb : Nat} {m m' : M}
set_option maxHeartbeats 1600000 in
set_option maxRecDepth 100000 in
theorem enter_no (h : St w0 w pb mb cb m) {base ca cc : Nat} {A B : Option Addr} {ts ss : List Int} (hR : RegAt w base A ca B cc ts ss) (top c : Int) {y : Int} (hs : slotOf ts c = (y, false)) :
    Calls Try.prog 60 #[ptr pb, .agg #[.int .i64 top, .slice A ts.length ca, .slice B ss.length cc], .int .i64 c] w (Endp w0 w pb mb cb (.tuple #[.int .i64 0, .int .i64 10]) m) := by
  have HS := Lib.hid hs
  obtain ⟨W, hW⟩ : ∃ W : World, W = w.alloc (.cells #[.int .i64 top, .slice A ts.length ca, .slice B ss.length cc] 80) := ⟨_, rfl⟩
  have hb : Below w.heap.size w W := hW ▸ below_alloc (Below.refl _ _) _
  have hK : W.heap[w.heap.size]? = some (.cells #[.int .i64 top, .slice A ts.length ca, .slice B ss.length cc] 80 (0, 0)) := hW ▸ blk_new w _
  have h1 := h.below hb
  have hR1 := hR.below hb
  obtain ⟨k0, k1, k2⟩ := box3 hK
  have HW := Lib.hid hW
  have HF1 := Lib.hid (Fr.of_below hb mb cb)
  clear hW hb h hR hs hK
  go_enter Try.func60, Try.ntmps60
  go_upto_region 1 with fail
  rw [← HW.out]
  go_wp2_with fail
  refine (slot_calls hR1.a hR1.la top B ss.length cc c).mono ?_
  rw [HS.out]
  rintro e W2 ⟨rfl, hb2⟩
  have h2 := h1.below hb2
  have HF2 := Lib.hid (HF1.out.trans (Fr.of_below hb2 mb cb))
  clear hb2 h1 hR1 k0 k1 k2
  go_wp2_with fail
  go_ret2
  exact ⟨rfl, h2, HF2.out⟩
set_option maxHeartbeats 1600000 in
set_option maxRecDepth 100000 in
theorem hold_no (h : St w0 w pb mb cb m) {base ca cc : Nat} {A B : Option Addr} {ts ss : List Int} (hR : RegAt w base A ca B cc ts ss) (top c : Int) {y : Int} (hs : slotOf ts c = (y, false)) (v : Int) :
    Calls Try.prog 102 #[ptr pb, .agg #[.int .i64 top, .slice A ts.length ca, .slice B ss.length cc], .int .i64 c, .int .i64 v] w (Endp w0 w pb mb cb (.int .i64 10) m) := by
  have HS := Lib.hid hs
  obtain ⟨W, hW⟩ : ∃ W : World, W = w.alloc (.cells #[.int .i64 top, .slice A ts.length ca, .slice B ss.length cc] 80) := ⟨_, rfl⟩
  have hb : Below w.heap.size w W := hW ▸ below_alloc (Below.refl _ _) _
  have hK : W.heap[w.heap.size]? = some (.cells #[.int .i64 top, .slice A ts.length ca, .slice B ss.length cc] 80 (0, 0)) := hW ▸ blk_new w _
  have h1 := h.below hb
  have hR1 := hR.below hb
  obtain ⟨k0, k1, k2⟩ := box3 hK
  have HW := Lib.hid hW
  have HF1 := Lib.hid (Fr.of_below hb mb cb)
  clear hW hb h hR hs hK
  go_enter Try.func102, Try.ntmps102
  go_upto_region 1 with fail
  rw [← HW.out]
  go_wp2_with fail
  refine (slot_calls hR1.a hR1.la top B ss.length cc c).mono ?_
  rw [HS.out]
  rintro e W2 ⟨rfl, hb2⟩
  have h2 := h1.below hb2
  have HF2 := Lib.hid (HF1.out.trans (Fr.of_below hb2 mb cb))
  clear hb2 h1 hR1 k0 k1 k2
  go_wp2_with fail
  go_ret
  exact ⟨rfl, h2, HF2.out⟩
set_option maxHeartbeats 1600000 in
set_option maxRecDepth 100000 in
theorem hold_low (h : St w0 w pb mb cb m) {base ca cc : Nat} {A B : Option Addr} {ts ss : List Int} (hR : RegAt w base A ca B cc ts ss) (top c : Int) {y : Int} (hs : slotOf ts c = (y, true)) (v : Int) (hv : v < 0) :
    Calls Try.prog 102 #[ptr pb, .agg #[.int .i64 top, .slice A ts.length ca, .slice B ss.length cc], .int .i64 c, .int .i64 v] w (Endp w0 w pb mb cb (.int .i64 10) m) := by
  have HS := Lib.hid hs
  have g1 : decide (v < 0) = true := decide_eq_true hv
  obtain ⟨W, hW⟩ : ∃ W : World, W = w.alloc (.cells #[.int .i64 top, .slice A ts.length ca, .slice B ss.length cc] 80) := ⟨_, rfl⟩
  have hb : Below w.heap.size w W := hW ▸ below_alloc (Below.refl _ _) _
  have hK : W.heap[w.heap.size]? = some (.cells #[.int .i64 top, .slice A ts.length ca, .slice B ss.length cc] 80 (0, 0)) := hW ▸ blk_new w _
  have h1 := h.below hb
  have hR1 := hR.below hb
  obtain ⟨k0, k1, k2⟩ := box3 hK
  have HW := Lib.hid hW
  have HF1 := Lib.hid (Fr.of_below hb mb cb)
  clear hW hb h hR hs hK
  go_enter Try.func102, Try.ntmps102
  go_upto_region 1 with fail
  rw [← HW.out]
  go_wp2_with fail
  refine (slot_calls hR1.a hR1.la top B ss.length cc c).mono ?_
  rw [HS.out]
  rintro e W2 ⟨rfl, hb2⟩
  have h2 := h1.below hb2
  have HF2 := Lib.hid (HF1.out.trans (Fr.of_below hb2 mb cb))
  clear hb2 h1 hR1 k0 k1 k2
  go_wp2_with fail
  go_ret
  exact ⟨rfl, h2, HF2.out⟩
set_option maxHeartbeats 1600000 in
set_option maxRecDepth 100000 in
theorem hold_high (h : St w0 w pb mb cb m) {base ca cc : Nat} {A B : Option Addr} {ts ss : List Int} (hR : RegAt w base A ca B cc ts ss) (top c : Int) {y : Int} (hs : slotOf ts c = (y, true)) (v : Int) (hv : 1073741824 < v) :
    Calls Try.prog 102 #[ptr pb, .agg #[.int .i64 top, .slice A ts.length ca, .slice B ss.length cc], .int .i64 c, .int .i64 v] w (Endp w0 w pb mb cb (.int .i64 10) m) := by
  have HS := Lib.hid hs
  have g1 : decide (v < 0) = false := decide_eq_false (by omega)
  have g2 : decide (1073741824 < v) = true := decide_eq_true hv
  obtain ⟨W, hW⟩ : ∃ W : World, W = w.alloc (.cells #[.int .i64 top, .slice A ts.length ca, .slice B ss.length cc] 80) := ⟨_, rfl⟩
  have hb : Below w.heap.size w W := hW ▸ below_alloc (Below.refl _ _) _
  have hK : W.heap[w.heap.size]? = some (.cells #[.int .i64 top, .slice A ts.length ca, .slice B ss.length cc] 80 (0, 0)) := hW ▸ blk_new w _
  have h1 := h.below hb
  have hR1 := hR.below hb
  obtain ⟨k0, k1, k2⟩ := box3 hK
  have HW := Lib.hid hW
  have HF1 := Lib.hid (Fr.of_below hb mb cb)
  clear hW hb h hR hs hK
  go_enter Try.func102, Try.ntmps102
  go_upto_region 1 with fail
  rw [← HW.out]
  go_wp2_with fail
  refine (slot_calls hR1.a hR1.la top B ss.length cc c).mono ?_
  rw [HS.out]
  rintro e W2 ⟨rfl, hb2⟩
  have h2 := h1.below hb2
  have HF2 := Lib.hid (HF1.out.trans (Fr.of_below hb2 mb cb))
  clear hb2 h1 hR1 k0 k1 k2
  go_wp2_with fail
  go_ret
  exact ⟨rfl, h2, HF2.out⟩
set_option maxHeartbeats 1600000 in
set_option maxRecDepth 100000 in
theorem open_no (h : St w0 w pb mb cb m) {na nb ca cc : Nat} {A B : Option Addr} (top v : Int) (hv : v < 0 ∨ 1073741824 < v) :
    Calls Try.prog 52 #[ptr pb, .agg #[.int .i64 top, .slice A na ca, .slice B nb cc], .int .i64 v] w (Endp w0 w pb mb cb (.tuple #[.int .i64 0, .int .i64 10]) m) := by
  obtain ⟨W, hW⟩ : ∃ W : World, W = w.alloc (.cells #[.int .i64 top, .slice A na ca, .slice B nb cc] 80) := ⟨_, rfl⟩
  have hb : Below w.heap.size w W := hW ▸ below_alloc (Below.refl _ _) _
  have HW := Lib.hid hW
  have H1 := Lib.hid (h.below hb)
  have HF1 := Lib.hid (Fr.of_below hb mb cb)
  clear hW hb h
  by_cases h0 : v < 0
  · have g1 : decide (v < 0) = true := decide_eq_true h0
    clear hv h0
    go_enter Try.func52, Try.ntmps52
    go_upto_region 1 with fail
    rw [← HW.out]
    go_wp2_with fail
    go_ret2
    exact ⟨rfl, H1.out, HF1.out⟩
  · have g1 : decide (v < 0) = false := decide_eq_false h0
    have g2 : decide (1073741824 < v) = true := decide_eq_true (by omega)
    clear hv h0
    go_enter Try.func52, Try.ntmps52
    go_upto_region 1 with fail
    rw [← HW.out]
    go_wp2_with fail
    go_ret2
    exact ⟨rfl, H1.out, HF1.out⟩
set_option maxHeartbeats 1600000 in
set_option maxRecDepth 100000 in
theorem regInit_no (h : St w0 w pb mb cb m) (top a b : Int) (hab : a < 1 ∨ 64 < a ∨ b < 0 ∨ 64 < b) :
    Calls Try.prog 48 #[ptr pb, .int .i64 top, .int .i64 a, .int .i64 b] w fun e w' => e = .returned (.tuple #[.agg #[.int .i64 0, .slice none 0 0, .slice none 0 0], .int .i64 10]) ∧ St w0 w' pb mb cb m ∧ Fr w w' mb cb := by
  obtain ⟨W, hW⟩ : ∃ W : World, W = w.alloc (.cells #[.int .i64 0, .slice none 0 0, .slice none 0 0] 80) := ⟨_, rfl⟩
  have hb : Below w.heap.size w W := hW ▸ below_alloc (Below.refl _ _) _
  have hK : W.heap[w.heap.size]? = some (.cells #[.int .i64 0, .slice none 0 0, .slice none 0 0] 80 (0, 0)) := hW ▸ blk_new w _
  obtain ⟨W2, hW2⟩ : ∃ y : World, y = set3 W w.heap.size (.int .i64 0) (.slice none 0 0) (.slice none 0 0) := ⟨_, rfl⟩
  have hO : Only W W2 w.heap.size := hW2 ▸ only3 _ _ _ _ _
  have hK2 : W2.heap[w.heap.size]? = some (.cells #[.int .i64 0, .slice none 0 0, .slice none 0 0] 80 (0, 0)) := hW2 ▸ blk3 hK _ _ _
  have hb2 : Below w.heap.size w W2 := ⟨hO.os.trans hb.os, hO.tape.trans hb.tape, hO.output.trans hb.output, by rw [hO.size]; exact hb.size, fun i hi => (hO.block i (by omega)).trans (hb.block i hi)⟩
  obtain ⟨p0, p1, p2⟩ := box3 hK
  have z0 := blk_frozen hK 0
  have z1 := blk_frozen hK 1
  have z2 := blk_frozen hK 2
  obtain ⟨q0, q1, q2⟩ := box3 hK2
  have FIN := Lib.hid (And.intro (h.below hb2) (Fr.of_below hb2 mb cb))
  have HW := Lib.hid hW
  have HW2 := Lib.hid hW2
  clear hW hb hK hW2 hO hK2 hb2 h
  by_cases h1 : a < 1
  · have g1 : decide (a < 1) = true := decide_eq_true h1
    clear hab h1
    go_enter Try.func48, Try.ntmps48
    go_upto_region 1 with fail
    rw [← HW.out]
    go_wp2_with fail
    unfold set3 at HW2
    rw [← HW2.out]
    exact bodyPost_ret (v := .tuple #[.agg #[.int .i64 0, .slice none 0 0, .slice none 0 0], .int .i64 10]) (by simp [results, Try.results48, go_sem, q0, q1, q2]) rfl ⟨rfl, FIN.out⟩
  · have g1 : decide (a < 1) = false := decide_eq_false h1
    by_cases h2 : 64 < a
    · have g2 : decide (64 < a) = true := decide_eq_true h2
      clear hab h1 h2
      go_enter Try.func48, Try.ntmps48
      go_upto_region 1 with fail
      rw [← HW.out]
      go_wp2_with fail
      unfold set3 at HW2
      rw [← HW2.out]
      exact bodyPost_ret (v := .tuple #[.agg #[.int .i64 0, .slice none 0 0, .slice none 0 0], .int .i64 10]) (by simp [results, Try.results48, go_sem, q0, q1, q2]) rfl ⟨rfl, FIN.out⟩
    · have g2 : decide (64 < a) = false := decide_eq_false h2
      by_cases h3 : b < 0
      · have g3 : decide (b < 0) = true := decide_eq_true h3
        clear hab h1 h2 h3
        go_enter Try.func48, Try.ntmps48
        go_upto_region 1 with fail
        rw [← HW.out]
        go_wp2_with fail
        unfold set3 at HW2
        rw [← HW2.out]
        exact bodyPost_ret (v := .tuple #[.agg #[.int .i64 0, .slice none 0 0, .slice none 0 0], .int .i64 10]) (by simp [results, Try.results48, go_sem, q0, q1, q2]) rfl ⟨rfl, FIN.out⟩
      · have g3 : decide (b < 0) = false := decide_eq_false h3
        have g4 : decide (64 < b) = true := decide_eq_true (by omega)
        clear hab h1 h2 h3
        go_enter Try.func48, Try.ntmps48
        go_upto_region 1 with fail
        rw [← HW.out]
        go_wp2_with fail
        unfold set3 at HW2
        rw [← HW2.out]
        exact bodyPost_ret (v := .tuple #[.agg #[.int .i64 0, .slice none 0 0, .slice none 0 0], .int .i64 10]) (by simp [results, Try.results48, go_sem, q0, q1, q2]) rfl ⟨rfl, FIN.out⟩
end
end Go.Proofs.Ytahnmklofgnagaa.Mem

namespace Go.Proofs.Ytahnmklofgnagaa.Mem
open Go.RowKit Go.Proofs.YtahnmklofgnagaaW.PrintWords Go.Proofs.YtahnmklofgnagaaW.PrintLast Go.Proofs.Ytahnmklofgnagaa.Tags
set_option linter.unusedVariables false
set_option linter.unusedSimpArgs false
section
variable {ops : Array Oper} {rest : List Oper} {o : Oper} {a : Go.Act} {Q : Exit → Go.Act → World → Prop}
theorem rowS_snoc (P : List (Int × Int)) (p : Int × Int) : rowS (P ++ [p]) = rowS P ++ [.int .i64 p.1, .int .i64 p.2] := by simp [rowS]
/-- 'append(xs, p)' on a row of places of one's own. -/
theorem append_S {w0 W : World} (hgd : o.guard = none) (s x : Operand) (ho : o.op = .call { callee := .builtin .append, args := #[s, x], argTypes := #[95, 95] }) (base : Nat) (v : Value) (P : List (Int × Int)) (p : Int × Int) (hO : OwnS W base v P)
    (hs : a.eval s = v) (hx : a.eval x = .slice (some ⟨W.heap.size, 0, none⟩) 1 1) (hB : Below base w0 W) (hbase : base ≤ W.heap.size) (hl : P.length ≤ 1000000)
    (h : ∀ v1 w1, OwnS w1 base v1 (P ++ [p]) → Below base w0 w1 → W.grownBy w1 v.ownBlock → wpList Try.prog ops Q rest (a.put o.dst v1) w1) :
    wpList Try.prog ops Q (o :: rest) a (W.alloc (.cells #[.int .i64 p.1, .int .i64 p.2] 143)) := by
  refine print_append_cells base hgd s x 95 143 (.agg #[.int .i64 0, .int .i64 0]) 2 16 ho Try.underlying95 snap_info rfl (by decide) (by decide) v P.length (rowS P) [.int .i64 p.1, .int .i64 p.2] hs hx rfl (by intro u hu; simp at hu; rcases hu with rfl | rfl <;> rfl) hO hB hbase (by omega) ?_
  intro v1 w1 hown hb1 hg1 hat1
  refine h v1 w1 ?_ hb1 hg1
  unfold OwnS
  rw [List.length_append, rowS_snoc]
  exact hown
end
section
variable {w w' w0 : World}
theorem grown_of {v : Value} {k : Nat} {cs : Array Value} {t : TypeId} (hg : w.grownBy w' v.ownBlock) (hk : w.heap[k]? = some (.cells cs t (0, 0))) (hn : some k ≠ v.ownBlock) : w'.heap[k]? = some (.cells cs t (0, 0)) := blk_grown hk hg hn
/-- Between the rounds of New. -/
def NewIn (w : World) (V : Int) (S : List Int) (P : List (Int × Int)) (wr : World) : Prop := ∃ vs vp, wr.heap[w.heap.size]? = some (.cells #[.int .i64 0, .slice none 0 0, .slice none 0 0] 97 (0, 0)) ∧ wr.heap[w.heap.size + 1]? = some (.cells #[.int .i64 V, vs, vp] 97 (0, 0)) ∧ OwnI wr w.heap.size vs S ∧ OwnS wr w.heap.size vp P ∧ Below w.heap.size w wr
set_option maxHeartbeats 3200000 in
set_option maxRecDepth 100000 in
theorem rgnew_calls (V : Int) (c s : Nat) (hc : c ≤ 64) (hs : s ≤ 64) (w : World) : Calls Try.prog 56 #[.int .i64 V, .int .i64 c, .int .i64 s] w fun e w' => ∃ x, e = .returned x ∧ RgV w' x ⟨V, List.replicate c (-1), List.replicate s (0, -1)⟩ ∧ Below w.heap.size w w' := by
  obtain ⟨W, hW⟩ : ∃ W : World, W = (w.alloc (.cells #[.int .i64 0, .slice none 0 0, .slice none 0 0] 97)).alloc (.cells #[.int .i64 V, .slice none 0 0, .slice none 0 0] 97) := ⟨_, rfl⟩
  have hk6 : W.heap[w.heap.size]? = some (.cells #[.int .i64 0, .slice none 0 0, .slice none 0 0] 97 (0, 0)) := hW ▸ blk_alloc (blk_new _ _) _
  have hk7 : W.heap[w.heap.size + 1]? = some (.cells #[.int .i64 V, .slice none 0 0, .slice none 0 0] 97 (0, 0)) := by
    have e : w.heap.size + 1 = (w.alloc (.cells #[.int .i64 0, .slice none 0 0, .slice none 0 0] 97)).heap.size := by simp
    rw [e, hW]
    exact blk_new _ _
  have hb : Below w.heap.size w W := hW ▸ below_alloc (below_alloc (Below.refl _ _) _) _
  have START := Lib.hid (show NewIn w V [] [] W from ⟨_, _, hk6, hk7, OwnI.nil _ _, OwnS.nil _ _, hb⟩)
  have HW := Lib.hid hW
  clear hW hk6 hk7 hb
  go_enter Try.func56, Try.ntmps56
  go_upto_region 2 with fail
  rw [← HW.out]
  clear HW
  go_wp2_with fail
  go_loopw [8] (fun i wr => ∃ k : Nat, k ≤ c ∧ i = .int .i64 k ∧ NewIn w V (List.replicate k (-1)) [] wr) (fun i _ => c - (intOf i).toNat)
  case atStart => exact ⟨0, Nat.zero_le _, rfl, START.out⟩
  case round =>
    obtain ⟨k, hk, rfl, vs, vp, h6, h7, hI, hP, hB⟩ := hrel
    clear START
    obtain ⟨xs, hxs⟩ : ∃ xs, List.replicate k (-1 : Int) = xs := ⟨_, rfl⟩
    rw [hxs] at hI
    have HXS := Lib.hid hxs
    have hxl : xs.length ≤ 1000 := by rw [← hxs]; simp; omega
    clear hxs
    obtain ⟨A, ca, rfl⟩ := hI.slice
    obtain ⟨B, cb, rfl⟩ := hP.slice
    by_cases hlt : k < c
    · have g1 : decide ((k : Int) < (c : Int)) = true := decide_eq_true (by omega)
      obtain ⟨a0, a1, a2⟩ := box3s h7
      have HX := Lib.hid (⟨h6, h7, hI, hP, hB⟩ : _ ∧ _ ∧ _ ∧ _ ∧ _)
      have hIs := hI
      clear h6 h7 hP hB
      obtain ⟨h6, h7, _, hP, hB⟩ := HX.out
      have HB := Lib.hid hB
      have H6 := Lib.hid h6
      have H7 := Lib.hid h7
      have HP := Lib.hid hP
      have HI := Lib.hid hI
      clear h6 h7 hP hB hI hIs HX
      go_wp2_with (at_builtin; refine append_I (w0 := w) rfl _ _ rfl w.heap.size _ xs (-1) HI.out rfl rfl HB.out HB.out.size (by omega) ?_)
      intro v1 w1 hO1 hB1 hg1 hat
      obtain ⟨A1, c1, rfl⟩ := hO1.slice
      rw [List.length_append] at hO1
      simp only [List.length_cons, List.length_nil, Nat.zero_add] at hO1
      rw [List.length_append]
      simp only [List.length_cons, List.length_nil, Nat.zero_add]
      have h6' := grown_of hg1 H6.out (HI.out.ne H6.out (by decide))
      have h7' := grown_of hg1 H7.out (HI.out.ne H7.out (by decide))
      have hP' : OwnS w1 w.heap.size (.slice B ([] : List (Int × Int)).length cb) [] := HP.out.move fun i hi => hg1.block i (by obtain ⟨_, hc⟩ := own_typed HP.out i hi; exact blk_lt hc) (by obtain ⟨_, hc⟩ := own_typed HP.out i hi; exact HI.out.ne hc (by decide))
      obtain ⟨W8, hW8⟩ : ∃ y : World, y = w1.setCell ⟨w.heap.size + 1, 1, none⟩ (.slice A1 (xs.length + 1) c1) := ⟨_, rfl⟩
      have hO8 : Only w1 W8 (w.heap.size + 1) := hW8 ▸ Only.set _ _ _
      have NEXT := Lib.hid (show NewIn w V (List.replicate (k + 1) (-1)) [] W8 from ⟨_, _, (hO8.block _ (by omega)).trans h6', hW8 ▸ blk_put h7' 1 _ rfl, by rw [List.replicate_succ', HXS.out]; exact hO1.only1 hO8 h7' (by decide), hP'.only hO8 h7' (by decide), bel_only hB1 hO8 (Nat.le_succ _)⟩)
      obtain ⟨b0, b1, b2⟩ := box3s h7'
      have z1 := blk_frozen h7' 1
      have HW8 := Lib.hid hW8
      clear hO1 hB1 hg1 hat h6' h7' hP' hW8 hO8 HB H6 H7 HP HI a0 a1 a2
      go_wp2_with fail
      rw [← HW8.out]
      go_roundw
      case rel => exact ⟨k + 1, by omega, by go_num, NEXT.out⟩
      case measure => simp [intOf]; omega
    · obtain rfl : k = c := by omega
      have g1 : decide ((k : Int) < (k : Int)) = false := decide_eq_false (by omega)
      have START := Lib.hid (show NewIn w V (List.replicate k (-1)) [] wr from ⟨_, _, h6, h7, HXS.out ▸ hI, hP, hB⟩)
      clear h6 h7 hI hP hB
      go_wp2_with fail
      go_loopw [9] (fun i wr => ∃ j : Nat, j ≤ s ∧ i = .int .i64 j ∧ NewIn w V (List.replicate k (-1)) (List.replicate j (0, -1)) wr) (fun i _ => s - (intOf i).toNat)
      case atStart => exact ⟨0, Nat.zero_le _, rfl, START.out⟩
      case round =>
        obtain ⟨j, hj, rfl, vs, vp, h6, h7, hI, hP, hB⟩ := hrel
        clear START
        obtain ⟨ys, hys⟩ : ∃ ys, List.replicate j ((0 : Int), (-1 : Int)) = ys := ⟨_, rfl⟩
        rw [HXS.out] at hI
        rw [hys] at hP
        have HYS := Lib.hid hys
        have hyl : ys.length ≤ 1000 := by rw [← hys]; simp; omega
        clear hys
        obtain ⟨A, ca, rfl⟩ := hI.slice
        obtain ⟨B, cb, rfl⟩ := hP.slice
        have HB := Lib.hid hB
        have H6 := Lib.hid h6
        have H7 := Lib.hid h7
        have HP := Lib.hid hP
        have HI := Lib.hid hI
        clear h6 hP hB hI
        by_cases hlt2 : j < s
        · have g2 : decide ((j : Int) < (s : Int)) = true := decide_eq_true (by omega)
          obtain ⟨a0, a1, a2⟩ := box3s h7
          clear h7
          go_wp2_with (at_builtin; refine append_S (w0 := w) rfl _ _ rfl w.heap.size _ ys (0, -1) HP.out rfl rfl HB.out HB.out.size (by omega) ?_)
          intro v1 w1 hO1 hB1 hg1
          obtain ⟨B1, c1, rfl⟩ := hO1.slice
          rw [List.length_append] at hO1
          simp only [List.length_cons, List.length_nil, Nat.zero_add] at hO1
          rw [List.length_append]
          simp only [List.length_cons, List.length_nil, Nat.zero_add]
          have h6' := grown_of hg1 H6.out (HP.out.ne H6.out (by decide))
          have h7' := grown_of hg1 H7.out (HP.out.ne H7.out (by decide))
          have hI' : OwnI w1 w.heap.size (.slice A xs.length ca) xs := HI.out.move fun i hi => hg1.block i (by obtain ⟨_, hc⟩ := own_typed HI.out i hi; exact blk_lt hc) (by obtain ⟨_, hc⟩ := own_typed HI.out i hi; exact HP.out.ne hc (by decide))
          obtain ⟨W8, hW8⟩ : ∃ y : World, y = w1.setCell ⟨w.heap.size + 1, 2, none⟩ (.slice B1 (ys.length + 1) c1) := ⟨_, rfl⟩
          have hO8 : Only w1 W8 (w.heap.size + 1) := hW8 ▸ Only.set _ _ _
          have NEXT := Lib.hid (show NewIn w V (List.replicate k (-1)) (List.replicate (j + 1) (0, -1)) W8 from ⟨_, _, (hO8.block _ (by omega)).trans h6', hW8 ▸ blk_put h7' 2 _ rfl, by rw [HXS.out]; exact hI'.only1 hO8 h7' (by decide), by rw [List.replicate_succ', HYS.out]; exact hO1.only hO8 h7' (by decide), bel_only hB1 hO8 (Nat.le_succ _)⟩)
          obtain ⟨b0, b1, b2⟩ := box3s h7'
          have z2 := blk_frozen h7' 2
          have HW8 := Lib.hid hW8
          clear hO1 hB1 hg1 h6' h7' hI' hW8 hO8 HB H6 H7 HP HI a0 a1 a2
          go_wp2_with fail
          rw [← HW8.out]
          go_roundw
          case rel => exact ⟨j + 1, by omega, by go_num, NEXT.out⟩
          case measure => simp [intOf]; omega
        · obtain rfl : j = s := by omega
          have g2 : decide ((j : Int) < (j : Int)) = false := decide_eq_false (by omega)
          obtain ⟨a0, a1, a2⟩ := box3s h7
          clear h7
          obtain ⟨W9, hW9⟩ : ∃ y : World, y = set3r wr w.heap.size (.int .i64 V) (.slice A xs.length ca) (.slice B ys.length cb) := ⟨_, rfl⟩
          have hO9 : Only wr W9 w.heap.size := hW9 ▸ only3r _ _ _ _ _
          have K9 : W9.heap[w.heap.size]? = some (.cells #[.int .i64 V, .slice A xs.length ca, .slice B ys.length cb] 97 (0, 0)) := hW9 ▸ blk3r H6.out _ _ _
          have FIN := Lib.hid (show RgV W9 (.agg #[.int .i64 V, .slice A xs.length ca, .slice B ys.length cb]) ⟨V, List.replicate k (-1), List.replicate j (0, -1)⟩ ∧ Below w.heap.size w W9 from ⟨⟨by simp; omega, by simp; omega, _, _, rfl, by show OwnI _ _ _ (List.replicate k (-1)); rw [HXS.out]; exact (HI.out.only1 hO9 H6.out (by decide)).lower (Nat.zero_le _), by show OwnS _ _ _ (List.replicate j (0, -1)); rw [HYS.out]; exact (HP.out.only hO9 H6.out (by decide)).lower (Nat.zero_le _)⟩, bel_only HB.out hO9 (Nat.le_refl _)⟩)
          obtain ⟨p0, p1, p2⟩ := box3s H6.out
          have z0 := blk_frozen H6.out 0
          have z1 := blk_frozen H6.out 1
          have z2 := blk_frozen H6.out 2
          obtain ⟨q0, q1, q2⟩ := box3s K9
          have HW9 := Lib.hid hW9
          clear hW9 hO9 K9
          go_wp2_with fail
          unfold set3r at HW9
          rw [← HW9.out]
          exact bodyPost_ret (v := .agg #[.int .i64 V, .slice A xs.length ca, .slice B ys.length cb]) (by simp [results, Try.results56, go_sem, q0, q1, q2]) rfl ⟨_, rfl, FIN.out⟩
end
end Go.Proofs.Ytahnmklofgnagaa.Mem

namespace Go.Proofs.Ytahnmklofgnagaa.Mem
open Go.RowKit Go.Proofs.YtahnmklofgnagaaW.PrintWords Go.Proofs.YtahnmklofgnagaaW.PrintLast Go.Proofs.Ytahnmklofgnagaa.Tags
set_option linter.unusedVariables false
set_option linter.unusedSimpArgs false
def usOf (S : List Int) : List Int := S.map (· + 1)
def vOf (p : Int × Int) : Int := p.1 * 4294967296 + (p.2 + 1)
def vsOf (P : List (Int × Int)) : List Int := P.map vOf
theorem usOf_get {S : List Int} {j : Nat} (h : j < S.length) : (usOf S).getD j 0 = S.getD j 0 + 1 := by
  unfold usOf
  rw [List.getD_eq_getElem?_getD, List.getD_eq_getElem?_getD, List.getElem?_map, List.getElem?_eq_getElem h]
  rfl
theorem vsOf_get {P : List (Int × Int)} {j : Nat} (h : j < P.length) : (vsOf P).getD j 0 = vOf (P.getD j (0, 0)) := by
  unfold vsOf
  rw [List.getD_eq_getElem?_getD, List.getD_eq_getElem?_getD, List.getElem?_map, List.getElem?_eq_getElem h]
  rfl
theorem usOf_set (S : List Int) (c : Nat) (z : Int) : (usOf S).set c (z + 1) = usOf (S.set c z) := by unfold usOf; rw [List.map_set]
theorem vsOf_set (P : List (Int × Int)) (c : Nat) (p : Int × Int) : (vsOf P).set c (vOf p) = vsOf (P.set c p) := by unfold vsOf; rw [List.map_set]
/-- The program's register and the document's. -/
structure Al15 (m : M) (top hd : Int) (d : D) (ts ss : List Int) (k : Nat) (g b : Int) (r : Rg) : Prop where
  Y : Yd m top hd d ts ss (usOf r.S) (vsOf r.P) 200 k g
  v : d.ver = r.V
  vb : 0 ≤ r.V ∧ r.V ≤ 1000000
  sb : ∀ j, j < r.S.length → -1 ≤ r.S.getD j 0 ∧ r.S.getD j 0 ≤ 1073741824
  pb : ∀ j, j < r.P.length → 0 ≤ (r.P.getD j (0, 0)).1 ∧ (r.P.getD j (0, 0)).1 ≤ b ∧ -1 ≤ (r.P.getD j (0, 0)).2 ∧ (r.P.getD j (0, 0)).2 ≤ 1073741824
section
variable {m m' : M} {top hd : Int} {d : D} {ts ss : List Int} {k : Nat} {g b : Int} {r : Rg}
theorem Al15.ls (h : Al15 m top hd d ts ss k g b r) : r.S.length = ts.length := by have := h.Y.ws.1; simpa [usOf] using this
theorem Al15.lp (h : Al15 m top hd d ts ss k g b r) : r.P.length = ss.length := by have := h.Y.wp.1; simpa [vsOf] using this
theorem Al15.like (h : Al15 m top hd d ts ss k g b r) (e : Like m' m) : Al15 m' top hd d ts ss k g b r := ⟨h.Y.like e, h.v, h.vb, h.sb, h.pb⟩
theorem Al15.more (h : Al15 m top hd d ts ss k g b r) : Al15 m top hd d ts ss k g (b + 1) r := ⟨h.Y, h.v, h.vb, h.sb, fun j hj => by have := h.pb j hj; omega⟩
theorem sb_set {S : List Int} {c : Nat} {z : Int} (h : ∀ j, j < S.length → -1 ≤ S.getD j 0 ∧ S.getD j 0 ≤ 1073741824) (hc : c < S.length) (hz : -1 ≤ z ∧ z ≤ 1073741824) : ∀ j, j < (S.set c z).length → -1 ≤ (S.set c z).getD j 0 ∧ (S.set c z).getD j 0 ≤ 1073741824 := by
  intro j hj
  rw [List.length_set] at hj
  rw [getD_set_ _ _ _ _ _ hc]
  split
  · exact hz
  · exact h j hj
/-- A client's word is another one. -/
theorem Al15.slot_ (h : Al15 m top hd d ts ss k g b r) {c : Nat} (hc : c < ts.length) (z : Int) (hz : -1 ≤ z ∧ z ≤ 1073741824) : ∃ M1, m.store (ts.getD c 0) (z + 1) = (M1, 0) ∧ Al15 M1 top hd d ts ss k g b ⟨r.V, r.S.set c z, r.P⟩ := by
  obtain ⟨M1, e, y⟩ := h.Y.slot hc (z + 1)
  rw [usOf_set] at y
  exact ⟨M1, e, y, h.v, h.vb, sb_set h.sb (by rw [h.ls]; exact hc) hz, h.pb⟩
/-- A client enters. -/
theorem Al15.enter (h : Al15 m top hd d ts ss k g b r) {c : Nat} (hc : c < ts.length) : ∃ M1 M2 M3, m.store (ts.getD c 0) 1 = (M1, 0) ∧ M1.okd = true ∧ M1.version top = (M2, r.V, 0) ∧ M2.store (ts.getD c 0) (r.V + 1) = (M3, 0) ∧ Al15 M3 top hd d ts ss k g b ⟨r.V, r.S.set c r.V, r.P⟩ := by
  obtain ⟨M1, e1, h1⟩ := h.slot_ hc 0 ⟨by omega, by omega⟩
  have e2 := version_val h1.Y.T
  rw [if_pos rfl, h1.v] at e2
  obtain ⟨M3, e3, h3⟩ := (h1.like (m' := M1.tick.tick.tick) ⟨rfl, rfl⟩).slot_ hc r.V ⟨by have := h.vb; omega, by have := h.vb; omega⟩
  refine ⟨M1, _, M3, e1, h1.Y.ok, e2, e3, ?_⟩
  have : (r.S.set c 0).set c r.V = r.S.set c r.V := List.set_set ..
  simp only [this] at h3
  exact h3
theorem vOf_mod {p : Int × Int} (h1 : 0 ≤ p.1) (h2 : -1 ≤ p.2) (h3 : p.2 ≤ 1073741824) : vOf p % 4294967296 = p.2 + 1 ∧ vOf p / 4294967296 = p.1 ∧ 0 ≤ vOf p := by
  unfold vOf
  omega
theorem Al15.vb_ (h : Al15 m top hd d ts ss k g b r) (hb : b ≤ 1000) {j : Nat} (hj : j < ss.length) : (vsOf r.P).getD j 0 % 4294967296 = (r.P.getD j (0, 0)).2 + 1 ∧ (vsOf r.P).getD j 0 / 4294967296 = (r.P.getD j (0, 0)).1 ∧ 0 ≤ (vsOf r.P).getD j 0 ∧ (vsOf r.P).getD j 0 ≤ 4611686018427387904 := by
  have hj' : j < r.P.length := by rw [h.lp]; exact hj
  obtain ⟨a1, a2, a3, a4⟩ := h.pb j hj'
  rw [vsOf_get hj']
  have := vOf_mod a1 a3 a4
  refine ⟨this.1, this.2.1, this.2.2, ?_⟩
  unfold vOf
  omega
theorem Al15.may (h : Al15 m top hd d ts ss k g b r) (hb : b ≤ 1000) {j : Nat} (hj : j < ss.length) : mayOpen ((vsOf r.P).getD j 0) = decide ((r.P.getD j (0, 0)).2 < 0) := by
  obtain ⟨a1, a2, a3, a4⟩ := h.vb_ hb hj
  have hp := h.pb j (by rw [h.lp]; exact hj)
  by_cases c : (r.P.getD j (0, 0)).2 < 0
  · rw [decide_eq_true c]
    exact (mayOpen_iff a3).2 ⟨by omega, by omega⟩
  · rw [decide_eq_false c]
    cases e : mayOpen ((vsOf r.P).getD j 0) with
    | false => rfl
    | true =>
      have := (mayOpen_iff a3).1 e
      omega
theorem Al15.opn (h : Al15 m top hd d ts ss k g b r) (hb : b ≤ 1000) {j : Nat} (hj : j < ss.length) (q : Int) : isOpen ((vsOf r.P).getD j 0) q = true ↔ ¬ (r.P.getD j (0, 0)).2 < 0 ∧ (r.P.getD j (0, 0)).1 = q := by
  obtain ⟨a1, a2, a3, a4⟩ := h.vb_ hb hj
  have hp := h.pb j (by rw [h.lp]; exact hj)
  rw [isOpen_iff a3, a1, a2]
  constructor
  · rintro ⟨x, y⟩
    exact ⟨by omega, y⟩
  · rintro ⟨x, y⟩
    exact ⟨by omega, y⟩
theorem Al15.held (h : Al15 m top hd d ts ss k g b r) (hb : b ≤ 1000) : Held m ss (vsOf r.P) := h.Y.wp.held fun j hj => ⟨(h.vb_ hb hj).2.2.1, (h.vb_ hb hj).2.2.2⟩
theorem pb_set {P : List (Int × Int)} {c : Nat} {p : Int × Int} {b : Int} (h : ∀ j, j < P.length → 0 ≤ (P.getD j (0, 0)).1 ∧ (P.getD j (0, 0)).1 ≤ b ∧ -1 ≤ (P.getD j (0, 0)).2 ∧ (P.getD j (0, 0)).2 ≤ 1073741824) (hc : c < P.length) (hz : 0 ≤ p.1 ∧ p.1 ≤ b + 1 ∧ -1 ≤ p.2 ∧ p.2 ≤ 1073741824) : ∀ j, j < (P.set c p).length → 0 ≤ ((P.set c p).getD j (0, 0)).1 ∧ ((P.set c p).getD j (0, 0)).1 ≤ b + 1 ∧ -1 ≤ ((P.set c p).getD j (0, 0)).2 ∧ ((P.set c p).getD j (0, 0)).2 ≤ 1073741824 := by
  intro j hj
  rw [List.length_set] at hj
  rw [getD_set_ _ _ _ _ _ hc]
  split
  · exact hz
  · have := h j hj
    omega
/-- A place's word is another one. -/
theorem Al15.place_ (h : Al15 m top hd d ts ss k g b r) {c : Nat} (hc : c < ss.length) (p : Int × Int) (hz : 0 ≤ p.1 ∧ p.1 ≤ b + 1 ∧ -1 ≤ p.2 ∧ p.2 ≤ 1073741824) : ∃ M1, m.swap (ss.getD c 0) ((vsOf r.P).getD c 0) (vOf p) = (M1, true, 0) ∧ Al15 M1 top hd d ts ss k g (b + 1) ⟨r.V, r.S, r.P.set c p⟩ := by
  obtain ⟨M1, e, y⟩ := h.Y.place hc (vOf p)
  rw [vsOf_set] at y
  exact ⟨M1, e, y, h.v, h.vb, h.sb, pb_set h.pb (by rw [h.lp]; exact hc) hz⟩
/-- What Open comes to. -/
theorem Al15.open_no (h : Al15 m top hd d ts ss k g b r) (hb : b ≤ 1000) (hno : ∀ j, j < ss.length → mayOpen ((vsOf r.P).getD j 0) = false) {v : Int} (hv : ¬ (v < 0 ∨ 1073741824 < v)) : r.open_ v = (r, 0, 3) := by
  unfold Rg.open_
  rw [if_neg hv, findIdx_no]
  intro j hj
  have := hno j (by rw [← h.lp]; exact hj)
  rw [h.may hb (by rw [← h.lp]; exact hj)] at this
  simpa using this
theorem Al15.open_yes (h : Al15 m top hd d ts ss k g b r) (hb : b ≤ 1000) {c : Nat} (hc : c < ss.length) (hno : ∀ j, j < c → mayOpen ((vsOf r.P).getD j 0) = false) (hy : mayOpen ((vsOf r.P).getD c 0) = true) {v : Int} (hv : ¬ (v < 0 ∨ 1073741824 < v)) :
    r.open_ v = (⟨r.V, r.S, r.P.set c ((r.P.getD c (0, 0)).1, v)⟩, (vsOf r.P).getD c 0 / 4294967296 * 64 + c, 0) ∧ ∃ M1, m.swap (ss.getD c 0) ((vsOf r.P).getD c 0) ((vsOf r.P).getD c 0 + v + 1) = (M1, true, 0) ∧ Al15 M1 top hd d ts ss k g (b + 1) ⟨r.V, r.S, r.P.set c ((r.P.getD c (0, 0)).1, v)⟩ := by
  have hc' : c < r.P.length := by rw [h.lp]; exact hc
  have hp := h.pb c hc'
  rw [h.may hb hc] at hy
  have hy' : (r.P.getD c (0, 0)).2 < 0 := by simpa using hy
  have hall : ∀ j, j < c → ¬ (r.P.getD j (0, 0)).2 < 0 := by
    intro j hj
    have := hno j hj
    rw [h.may hb (by omega)] at this
    simpa using this
  refine ⟨?_, ?_⟩
  · unfold Rg.open_
    rw [if_neg hv, findIdx_at hc' hy' hall]
    simp only
    rw [(h.vb_ hb hc).2.1]
  · obtain ⟨M1, e, y⟩ := h.place_ hc ((r.P.getD c (0, 0)).1, v) ⟨hp.1, by simp only; omega, by simp only; omega, by simp only; omega⟩
    refine ⟨M1, ?_, y⟩
    rw [← e, vsOf_get hc']
    congr 1
    unfold vOf
    simp only
    omega
theorem oldF_spec (c : Int) : ∀ (S : List Int) (i : Nat) (n : Int), oldF c i n S ≤ n ∧ (∀ j, j < S.length → ((i + j : Nat) : Int) ≠ c → 0 ≤ S.getD j 0 → oldF c i n S ≤ S.getD j 0) ∧ (oldF c i n S = n ∨ ∃ j, j < S.length ∧ ((i + j : Nat) : Int) ≠ c ∧ 0 ≤ S.getD j 0 ∧ oldF c i n S = S.getD j 0)
  | [], i, n => ⟨Int.le_refl _, fun j hj => by simp at hj, Or.inl rfl⟩
  | x :: S, i, n => by
    obtain ⟨a1, a2, a3⟩ := oldF_spec c S (i + 1) (if (i : Int) ≠ c ∧ 0 ≤ x ∧ x < n then x else n)
    have e : oldF c i n (x :: S) = oldF c (i + 1) (if (i : Int) ≠ c ∧ 0 ≤ x ∧ x < n then x else n) S := rfl
    rw [e]
    have hn : (if (i : Int) ≠ c ∧ 0 ≤ x ∧ x < n then x else n) ≤ n := by split <;> omega
    refine ⟨Int.le_trans a1 hn, fun j hj hc h0 => ?_, ?_⟩
    · cases j with
      | zero =>
        have h0' : 0 ≤ x := h0
        show oldF c (i + 1) _ S ≤ x
        refine Int.le_trans a1 ?_
        have hc' : (i : Int) ≠ c := hc
        split <;> omega
      | succ j => exact a2 j (by simpa using hj) (by rw [show i + 1 + j = i + (j + 1) by omega]; exact hc) h0
    · rcases a3 with a3 | ⟨j, hj, hc, h0, a3⟩
      · by_cases q : (i : Int) ≠ c ∧ 0 ≤ x ∧ x < n
        · rw [if_pos q] at a3 ⊢
          exact Or.inr ⟨0, by simp, q.1, q.2.1, a3⟩
        · rw [if_neg q] at a3 ⊢
          exact Or.inl a3
      · exact Or.inr ⟨j + 1, by simpa using hj, by rw [show i + (j + 1) = i + 1 + j by omega]; exact hc, h0, a3⟩
theorem snF_spec : ∀ (P : List (Int × Int)) (n : Int), snF n P ≤ n ∧ (∀ j, j < P.length → 0 ≤ (P.getD j (0, 0)).2 → snF n P ≤ (P.getD j (0, 0)).2) ∧ (snF n P = n ∨ ∃ j, j < P.length ∧ 0 ≤ (P.getD j (0, 0)).2 ∧ snF n P = (P.getD j (0, 0)).2)
  | [], n => ⟨Int.le_refl _, fun j hj => by simp at hj, Or.inl rfl⟩
  | x :: P, n => by
    obtain ⟨a1, a2, a3⟩ := snF_spec P (if 0 ≤ x.2 ∧ x.2 < n then x.2 else n)
    have e : snF n (x :: P) = snF (if 0 ≤ x.2 ∧ x.2 < n then x.2 else n) P := rfl
    rw [e]
    have hn : (if 0 ≤ x.2 ∧ x.2 < n then x.2 else n) ≤ n := by split <;> omega
    refine ⟨Int.le_trans a1 hn, fun j hj h0 => ?_, ?_⟩
    · cases j with
      | zero =>
        have h0' : 0 ≤ x.2 := h0
        show snF _ P ≤ x.2
        refine Int.le_trans a1 ?_
        split <;> omega
      | succ j => exact a2 j (by simpa using hj) h0
    · rcases a3 with a3 | ⟨j, hj, h0, a3⟩
      · by_cases q : 0 ≤ x.2 ∧ x.2 < n
        · rw [if_pos q] at a3 ⊢
          exact Or.inr ⟨0, by simp, q.1, a3⟩
        · rw [if_neg q] at a3 ⊢
          exact Or.inl a3
      · exact Or.inr ⟨j + 1, by simpa using hj, h0, a3⟩
/-- Least, in the program's order and in the document's. -/
theorem least_same (V c : Int) (S : List Int) (P : List (Int × Int)) (hV : V ≤ 1073741825) : oldF c 0 (snF (oldF c 0 V S) P) S = snF (if V < oldF c 0 1073741825 S then V else oldF c 0 1073741825 S) P := by
  obtain ⟨a1, a2, a3⟩ := oldF_spec c S 0 V
  generalize oldF c 0 V S = a at *
  obtain ⟨b1, b2, b3⟩ := snF_spec P a
  generalize snF a P = bb at *
  obtain ⟨p1, p2, p3⟩ := oldF_spec c S 0 bb
  generalize oldF c 0 bb S = p at *
  obtain ⟨o1, o2, o3⟩ := oldF_spec c S 0 1073741825
  generalize oldF c 0 1073741825 S = o at *
  obtain ⟨t, ht⟩ : ∃ t, (if V < o then V else o) = t := ⟨_, rfl⟩
  have ht1 : t ≤ V ∧ t ≤ o ∧ (t = V ∨ t = o) := by rw [← ht]; split <;> omega
  rw [ht]
  obtain ⟨q1, q2, q3⟩ := snF_spec P t
  generalize snF t P = q at *
  have hle : p ≤ q := by
    rcases q3 with q3 | ⟨j, hj, h0, q3⟩
    · rcases ht1.2.2 with e | e
      · omega
      · rcases o3 with o3 | ⟨j, hj, hc, h0, o3⟩
        · omega
        · have := p2 j hj hc h0
          omega
    · have := b2 j hj h0
      omega
  have hge : q ≤ p := by
    rcases p3 with p3 | ⟨j, hj, hc, h0, p3⟩
    · rcases b3 with b3 | ⟨j, hj, h0, b3⟩
      · rcases a3 with a3 | ⟨j, hj, hc, h0, a3⟩
        · omega
        · have := o2 j hj hc h0
          omega
      · have := q2 j hj h0
        omega
    · have := o2 j hj hc h0
      omega
  omega
def lowZ (but : Int) : Int → List (Int × Int) → Int
  | n, [] => n
  | n, p :: l => lowZ but (if p.1 = but then n else lowV n (bits .and .i64 p.2 4294967295)) l
theorem lowest_val (but : Int) : ∀ (hs vs : List Int) (m : M) (n : Int), vs.length = hs.length → (∀ j, j < hs.length → m.val (hs.getD j 0) = some (number (vs.getD j 0))) → ∃ m', m.lowest but 4294967295 n hs = (m', lowZ but n (hs.zip vs), 0) ∧ Like m' m
  | [], [], m, n, _, _ => ⟨m, rfl, rfl, rfl⟩
  | [], _ :: _, m, n, h, _ => by simp at h
  | _ :: _, [], m, n, h, _ => by simp at h
  | h :: hs, v :: vs, m, n, hl, hv => by
    have h0 : m.val h = some (number v) := hv 0 (by simp)
    have ht : ∀ j, j < hs.length → m.val (hs.getD j 0) = some (number (vs.getD j 0)) := fun j hj => hv (j + 1) (by simpa using hj)
    unfold M.lowest
    by_cases e : h = but
    · rw [if_pos e]
      obtain ⟨m', e1, e2⟩ := lowest_val but hs vs m n (by simpa using hl) ht
      refine ⟨m', ?_, e2⟩
      rw [e1]
      show _ = (m', lowZ but (if h = but then n else _) _, 0)
      rw [if_pos e]
      rfl
    · rw [if_neg e, word_val h0]
      simp only [ne_eq, not_true_eq_false, if_false]
      obtain ⟨m', e1, e2⟩ := lowest_val but hs vs m.tick (lowV n (bits .and .i64 v 4294967295)) (by simpa using hl) (fun j hj => (tick_val m _).trans (ht j hj))
      refine ⟨m', ?_, e2.1.trans rfl, e2.2.trans rfl⟩
      rw [e1]
      show _ = (m', lowZ but (if h = but then n else _) _, 0)
      rw [if_neg e]
      rfl
theorem lowV_of {n z s : Int} (hz : bits .and .i64 z 4294967295 = s + 1) (hs : -1 ≤ s ∧ s ≤ 1073741824) : lowV n (bits .and .i64 z 4294967295) = if 0 ≤ s ∧ s < n then s else n := by
  rw [hz]
  unfold lowV
  have e : wrap64 (s + 1 - 1) = s := by unfold wrap64; omega
  rw [e]
  by_cases c : 0 < s + 1
  · rw [if_pos c]
    by_cases c2 : s < n
    · rw [if_pos c2, if_pos ⟨by omega, c2⟩]
    · rw [if_neg c2, if_neg (by rintro ⟨_, q⟩; exact c2 q)]
  · rw [if_neg c, if_neg (by rintro ⟨q, _⟩; omega)]
theorem low_slots (but c : Int) : ∀ (S ts : List Int) (i : Nat) (n : Int), ts.length = S.length → (∀ j, j < ts.length → (ts.getD j 0 = but ↔ ((i + j : Nat) : Int) = c)) → (∀ j, j < S.length → -1 ≤ S.getD j 0 ∧ S.getD j 0 ≤ 1073741824) → lowZ but n (ts.zip (usOf S)) = oldF c i n S
  | [], [], i, n, _, _, _ => rfl
  | [], _ :: _, i, n, h, _, _ => by simp at h
  | _ :: _, [], i, n, h, _, _ => by simp at h
  | s :: S, t :: ts, i, n, hl, hb, hs => by
    have h0 := hb 0 (by simp)
    have s0 : -1 ≤ s ∧ s ≤ 1073741824 := hs 0 (by simp)
    show lowZ but (if t = but then n else lowV n (bits .and .i64 (s + 1) 4294967295)) (ts.zip (usOf S)) = oldF c (i + 1) (if (i : Int) ≠ c ∧ 0 ≤ s ∧ s < n then s else n) S
    have hz : bits .and .i64 (s + 1) 4294967295 = s + 1 := by rw [and32 _ (by omega)]; omega
    rw [lowV_of hz s0]
    have e : (if t = but then n else if 0 ≤ s ∧ s < n then s else n) = (if (i : Int) ≠ c ∧ 0 ≤ s ∧ s < n then s else n) := by
      have h0' : t = but ↔ (i : Int) = c := by simpa using h0
      by_cases q : t = but
      · rw [if_pos q, if_neg (by rintro ⟨a, _⟩; exact a (h0'.1 q))]
      · rw [if_neg q]
        have : (i : Int) ≠ c := fun a => q (h0'.2 a)
        by_cases q2 : 0 ≤ s ∧ s < n
        · rw [if_pos q2, if_pos ⟨this, q2⟩]
        · rw [if_neg q2, if_neg (by rintro ⟨_, a⟩; exact q2 a)]
    rw [e]
    exact low_slots but c S ts (i + 1) _ (by simpa using hl) (fun j hj => by have := hb (j + 1) (by simpa using hj); rw [show i + (j + 1) = i + 1 + j by omega] at this; exact this) (fun j hj => hs (j + 1) (by simpa using hj))
theorem low_snaps (but : Int) : ∀ (P : List (Int × Int)) (ss : List Int) (n : Int), ss.length = P.length → (∀ j, j < ss.length → ss.getD j 0 ≠ but) → (∀ j, j < P.length → 0 ≤ (P.getD j (0, 0)).1 ∧ -1 ≤ (P.getD j (0, 0)).2 ∧ (P.getD j (0, 0)).2 ≤ 1073741824) → lowZ but n (ss.zip (vsOf P)) = snF n P
  | [], [], n, _, _, _ => rfl
  | [], _ :: _, n, h, _, _ => by simp at h
  | _ :: _, [], n, h, _, _ => by simp at h
  | p :: P, t :: ss, n, hl, hb, hs => by
    have h0 : t ≠ but := hb 0 (by simp)
    have s0 : 0 ≤ p.1 ∧ -1 ≤ p.2 ∧ p.2 ≤ 1073741824 := hs 0 (by simp)
    show lowZ but (if t = but then n else lowV n (bits .and .i64 (vOf p) 4294967295)) (ss.zip (vsOf P)) = snF (if 0 ≤ p.2 ∧ p.2 < n then p.2 else n) P
    have hv := vOf_mod s0.1 s0.2.1 s0.2.2
    have hz : bits .and .i64 (vOf p) 4294967295 = p.2 + 1 := by rw [and32 _ hv.2.2]; exact hv.1
    rw [lowV_of hz s0.2, if_neg h0]
    exact low_snaps but P ss _ (by simpa using hl) (fun j hj => hb (j + 1) (by simpa using hj)) (fun j hj => hs (j + 1) (by simpa using hj))
theorem Al15.but (h : Al15 m top hd d ts ss k g b r) (c : Int) : (∀ j, j < ts.length → (ts.getD j 0 = (slotOf ts c).1 ↔ ((0 + j : Nat) : Int) = c)) ∧ ∀ j, j < ss.length → ss.getD j 0 ≠ (slotOf ts c).1 := by
  have hd' := List.nodup_append.1 h.Y.nd
  unfold slotOf
  by_cases e : c < 0 ∨ (ts.length : Int) ≤ c
  · rw [if_pos e]
    refine ⟨fun j hj => ⟨fun q => ?_, fun q => ?_⟩, fun j hj => ?_⟩
    · have := val_pos (h.Y.ws.2 j hj)
      have q' : ts.getD j 0 = 0 := q
      omega
    · omega
    · have := val_pos (h.Y.wp.2 j hj)
      show ss.getD j 0 ≠ 0
      omega
  · rw [if_neg e]
    have hc : c.toNat < ts.length := by omega
    refine ⟨fun j hj => ⟨fun q => ?_, fun q => ?_⟩, fun j hj q => ?_⟩
    · by_cases w : j = c.toNat
      · omega
      · exact absurd q (nodup_ne hd'.1 hj hc w)
    · rw [show c.toNat = j by omega]
    · exact hd'.2.2 _ (getD_mem hc) _ (getD_mem hj) q.symm
/-- What is told of a register. -/
theorem Al15.told (h : Al15 m top hd d ts ss k g b r) (c : Int) : ∃ M1 M2 M3 M4 n1 n2 n3, m.version top = (M1, n1, 0) ∧ M1.lowest (slotOf ts c).1 4294967295 n1 ts = (M2, n2, 0) ∧ M2.lowest (slotOf ts c).1 4294967295 n2 ss = (M3, n3, 0) ∧ M3.lowest (slotOf ts c).1 4294967295 n3 ts = (M4, r.least c, 0) ∧ ∃ M5, M4.oldest ts c = (M5, r.oldest c, 0) ∧ Like M5 m ∧ Like M4 m := by
  obtain ⟨b1, b2⟩ := h.but c
  have e1 := version_val h.Y.T
  rw [if_pos rfl, h.v] at e1
  obtain ⟨M1, hM1⟩ : ∃ M1, M1 = m.tick.tick.tick := ⟨_, rfl⟩
  rw [← hM1] at e1
  have l1 : Like M1 m := by rw [hM1]; exact ⟨rfl, rfl⟩
  have h1 := h.like l1
  obtain ⟨M2, e2, l2⟩ := lowest_val (slotOf ts c).1 ts (usOf r.S) M1 r.V h1.Y.ws.1 h1.Y.ws.2
  have h2 := h1.like l2
  obtain ⟨M3, e3, l3⟩ := lowest_val (slotOf ts c).1 ss (vsOf r.P) M2 (lowZ (slotOf ts c).1 r.V (ts.zip (usOf r.S))) h2.Y.wp.1 h2.Y.wp.2
  have h3 := h2.like l3
  obtain ⟨M4, e4, l4⟩ := lowest_val (slotOf ts c).1 ts (usOf r.S) M3 (lowZ (slotOf ts c).1 (lowZ (slotOf ts c).1 r.V (ts.zip (usOf r.S))) (ss.zip (vsOf r.P))) h3.Y.ws.1 h3.Y.ws.2
  have h4 := h3.like l4
  obtain ⟨M5, e5, l5⟩ := lowest_val (slotOf ts c).1 ts (usOf r.S) M4 1073741825 h4.Y.ws.1 h4.Y.ws.2
  have s1 := fun n => low_slots (slotOf ts c).1 c r.S ts 0 n h.ls.symm b1 h.sb
  have s2 := fun n => low_snaps (slotOf ts c).1 r.P ss n h.lp.symm b2 (fun j hj => ⟨(h.pb j hj).1, (h.pb j hj).2.2⟩)
  have tr : ∀ {x y z : M}, Like x y → Like y z → Like x z := fun p q => ⟨p.1.trans q.1, p.2.trans q.2⟩
  have hlt := least_same r.V c r.S r.P (by have := h.vb; omega)
  refine ⟨M1, M2, M3, M4, r.V, _, _, e1, e2, e3, ?_, M5, ?_, tr l5 (tr l4 (tr l3 (tr l2 l1))), tr l4 (tr l3 (tr l2 l1))⟩
  · rw [e4]
    simp only [s1, s2]
    rw [hlt]
    rfl
  · unfold M.oldest
    rw [e5, s1]
    rfl
end
end Go.Proofs.Ytahnmklofgnagaa.Mem

namespace Go.Proofs.Ytahnmklofgnagaa.Mem
open Go.RowKit Go.Proofs.YtahnmklofgnagaaW.PrintWords Go.Proofs.YtahnmklofgnagaaW.PrintLast Go.Proofs.Ytahnmklofgnagaa.Tags
set_option linter.unusedVariables false
set_option linter.unusedSimpArgs false
section
variable {w0 w w' : World} {pb mb cb : Nat} {m m' : M} {top hd : Int} {d : D} {ts ss : List Int} {k : Nat} {g b : Int} {r : Rg} {base ca cc : Nat} {A B : Option Addr}
theorem slotOf_in {c : Int} (h0 : 0 ≤ c) (h1 : c < (ts.length : Int)) : slotOf ts c = (ts.getD c.toNat 0, true) := if_neg (by omega)
theorem slotOf_out {c : Int} (h : ¬ (0 ≤ c ∧ c < (ts.length : Int))) : slotOf ts c = (0, false) := if_pos (by omega)
theorem Rg.slot_in {c v : Int} (h0 : 0 ≤ c) (h1 : c < (r.S.length : Int)) : r.slot c v = (⟨r.V, r.S.set c.toNat v, r.P⟩, 0) := if_pos ⟨h0, h1⟩
theorem Rg.slot_out {c v : Int} (h : ¬ (0 ≤ c ∧ c < (r.S.length : Int))) : r.slot c v = (r, 10) := if_neg h
theorem p_enter (hS : St w0 w pb mb cb m) (hR : RegAt w base A ca B cc ts ss) (hL : Al15 m top hd d ts ss k g b r) (c : Int) : ∃ (M' : M) (n e : Int) (r' : Rg), Calls Try.prog 60 #[ptr pb, .agg #[.int .i64 top, .slice A ts.length ca, .slice B ss.length cc], .int .i64 c] w (Endp w0 w pb mb cb (.tuple #[.int .i64 n, .int .i64 e]) M') ∧ Al15 M' top hd d ts ss k g b r' ∧ r.slot c r.V = (r', e) ∧ ((e = 0 ∧ n = r.V) ∨ (e = 10 ∧ n = 0)) := by
  by_cases h : 0 ≤ c ∧ c < (ts.length : Int)
  · obtain ⟨M1, M2, M3, e1, o1, e2, e3, h3⟩ := hL.enter (c := c.toNat) (by omega)
    exact ⟨M3, r.V, 0, _, enter_ok hS hR top c (slotOf_in h.1 h.2) (by have := hL.vb; omega) (by have := hL.vb; omega) e1 o1 e2 e3, h3, Rg.slot_in h.1 (by rw [hL.ls]; exact h.2), Or.inl ⟨rfl, rfl⟩⟩
  · exact ⟨m, 0, 10, r, enter_no hS hR top c (slotOf_out h), hL, Rg.slot_out (by rw [hL.ls]; exact h), Or.inr ⟨rfl, rfl⟩⟩
theorem p_leave (hS : St w0 w pb mb cb m) (hR : RegAt w base A ca B cc ts ss) (hL : Al15 m top hd d ts ss k g b r) (c : Int) : ∃ (M' : M) (e : Int) (r' : Rg), Calls Try.prog 62 #[ptr pb, .agg #[.int .i64 top, .slice A ts.length ca, .slice B ss.length cc], .int .i64 c] w (Endp w0 w pb mb cb (.int .i64 e) M') ∧ Al15 M' top hd d ts ss k g b r' ∧ r.slot c (-1) = (r', e) := by
  by_cases h : 0 ≤ c ∧ c < (ts.length : Int)
  · obtain ⟨M1, e1, h1⟩ := hL.slot_ (c := c.toNat) (by omega) (-1) ⟨by omega, by omega⟩
    have hc := leave_ok hS hR top c (slotOf_in h.1 h.2)
    have e1' : m.store (ts.getD c.toNat 0) 0 = (M1, 0) := e1
    rw [e1'] at hc
    exact ⟨M1, 0, _, hc, h1, Rg.slot_in h.1 (by rw [hL.ls]; exact h.2)⟩
  · exact ⟨m, 10, r, leave_no hS hR top c (slotOf_out h), hL, Rg.slot_out (by rw [hL.ls]; exact h)⟩
theorem p_hold (hS : St w0 w pb mb cb m) (hR : RegAt w base A ca B cc ts ss) (hL : Al15 m top hd d ts ss k g b r) (c v : Int) : ∃ (M' : M) (e : Int) (r' : Rg), Calls Try.prog 102 #[ptr pb, .agg #[.int .i64 top, .slice A ts.length ca, .slice B ss.length cc], .int .i64 c, .int .i64 v] w (Endp w0 w pb mb cb (.int .i64 e) M') ∧ Al15 M' top hd d ts ss k g b r' ∧ (if v < 0 ∨ 1073741824 < v then (r, (10 : Int)) else r.slot c v) = (r', e) := by
  by_cases h : 0 ≤ c ∧ c < (ts.length : Int)
  · by_cases hv : v < 0 ∨ 1073741824 < v
    · refine ⟨m, 10, r, ?_, hL, if_pos hv⟩
      rcases hv with hv | hv
      · exact hold_low hS hR top c (slotOf_in h.1 h.2) v hv
      · exact hold_high hS hR top c (slotOf_in h.1 h.2) v hv
    · obtain ⟨M1, e1, h1⟩ := hL.slot_ (c := c.toNat) (by omega) v ⟨by omega, by omega⟩
      have hc := hold_ok hS hR top c (slotOf_in h.1 h.2) (v := v) (by omega) (by omega)
      rw [e1] at hc
      exact ⟨M1, 0, _, hc, h1, by rw [if_neg hv]; exact Rg.slot_in h.1 (by rw [hL.ls]; exact h.2)⟩
  · refine ⟨m, 10, r, hold_no hS hR top c (slotOf_out h) v, hL, ?_⟩
    split
    · rfl
    · exact Rg.slot_out (by rw [hL.ls]; exact h)
theorem p_open (hb : b ≤ 1000) (hS : St w0 w pb mb cb m) (hR : RegAt w base A ca B cc ts ss) (hL : Al15 m top hd d ts ss k g b r) (v : Int) : Calls Try.prog 52 #[ptr pb, .agg #[.int .i64 top, .slice A ts.length ca, .slice B ss.length cc], .int .i64 v] w fun e w' => ∃ M' : M, e = .returned (.tuple #[.int .i64 (r.open_ v).2.1, .int .i64 (r.open_ v).2.2]) ∧ St w0 w' pb mb cb M' ∧ Fr w w' mb cb ∧ Al15 M' top hd d ts ss k g (b + 1) (r.open_ v).1 := by
  by_cases hv : v < 0 ∨ 1073741824 < v
  · have e : r.open_ v = (r, 0, 10) := if_pos hv
    rw [e]
    refine (open_no hS top v hv).mono ?_
    rintro e w' ⟨rfl, h1, h2⟩
    exact ⟨m, rfl, h1, h2, hL.more⟩
  · refine (open_calls hS hR (hL.held hb) top v (by omega) (by omega) (hL.Y.swaps v)).mono ?_
    rintro e w' ⟨hF, ⟨m2, hm2, hno, rfl, h1⟩ | ⟨p, m2, hp, hm2, hno, hmay, rfl, h1⟩⟩
    · rw [hL.open_no hb hno hv]
      exact ⟨m2, rfl, h1, hF, (hL.like hm2).more⟩
    · obtain ⟨e1, M1, e2, h3⟩ := (hL.like hm2).open_yes hb hp hno hmay hv
      rw [e2] at h1
      rw [e1]
      exact ⟨M1, rfl, h1, hF, h3⟩
theorem find_out {id : Int} (h : id < 0 ∨ (r.P.length : Int) ≤ id % 64) : r.find id = -1 := if_pos (h.elim Or.inl (fun q => Or.inr (Or.inl q)))
theorem find_in {id : Int} {q j : Nat} (h : id = ((q * 64 + j : Nat) : Int)) (hj : j < r.P.length) (hj2 : j < 64) : r.find id = if (r.P.getD j (0, 0)).2 < 0 ∨ (r.P.getD j (0, 0)).1 ≠ q then -1 else (j : Int) := by
  unfold Rg.find
  have e1 : id % 64 = (j : Int) := by omega
  have e2 : id / 64 = (q : Int) := by omega
  rw [e1, e2, Int.toNat_natCast]
  by_cases c : (r.P.getD j (0, 0)).2 < 0 ∨ (r.P.getD j (0, 0)).1 ≠ q
  · rw [if_pos c, if_pos (Or.inr (Or.inr c))]
  · rw [if_neg c, if_neg (by rintro (a | a | a); omega; omega; exact c a)]
theorem p_find (hb : b ≤ 1000) (hS : St w0 w pb mb cb m) (hR : RegAt w base A ca B cc ts ss) (hL : Al15 m top hd d ts ss k g b r) (id : Int) (hid : id ≤ 9223372036854775807) : ∃ (M' : M) (n e : Int), Calls Try.prog 54 #[ptr pb, .agg #[.int .i64 top, .slice A ts.length ca, .slice B ss.length cc], .int .i64 id] w (Endp w0 w pb mb cb (.tuple #[.int .i64 n, .int .i64 e]) M') ∧ Al15 M' top hd d ts ss k g b r ∧ ((r.find id = -1 ∧ e = 2 ∧ n = 0) ∨ ∃ j : Nat, j < r.P.length ∧ r.find id = (j : Int) ∧ e = 0 ∧ n = (r.P.getD j (0, 0)).2) := by
  by_cases ho : id < 0 ∨ (ss.length : Int) ≤ id % 64
  · have hp := fun W (hW : Below w.heap.size w W) => place_out (base := 0) (hS.below hW) (A := A) (B := B) (ca := ca) (cc := cc) (ts := ts) top id (by omega : id < 0 ∨ (0 ≤ id ∧ (ss.length : Int) ≤ id % 64)) hR.lb
    have hf := find_of hS top id hp
    rw [if_neg (by decide)] at hf
    exact ⟨m, 0, 2, hf, hL, Or.inl ⟨find_out (by rw [hL.lp]; exact ho), rfl, rfl⟩⟩
  · obtain ⟨q, hq⟩ : ∃ q : Nat, id / 64 = (q : Int) := ⟨(id / 64).toNat, by omega⟩
    obtain ⟨j, hj⟩ : ∃ j : Nat, id % 64 = (j : Int) := ⟨(id % 64).toNat, by omega⟩
    have hid' : id = ((q * 64 + j : Nat) : Int) := by omega
    have hjs : j < ss.length := by omega
    have hj2 : j < 64 := by omega
    have hjp : j < r.P.length := by rw [hL.lp]; exact hjs
    have hw := word_val (hL.Y.wp.2 j hjs)
    have hfi := find_in (r := r) hid' hjp hj2
    obtain ⟨a1, a2, a3, a4⟩ := hL.vb_ hb hjs
    have hpb := hL.pb j hjp
    have hopn := hL.opn hb hjs (q : Int)
    cases hop : isOpen ((vsOf r.P).getD j 0) (q : Int) with
    | false =>
      have hf := find_of hS top id (place_not hS hR top q j (by omega) hjs hj2 rfl hw hop hid')
      rw [if_neg (by decide)] at hf
      have hn : ¬ (¬ (r.P.getD j (0, 0)).2 < 0 ∧ (r.P.getD j (0, 0)).1 = (q : Int)) := fun c => by have := hopn.2 c; rw [hop] at this; cases this
      refine ⟨m.tick, 0, 2, hf, hL.like ⟨rfl, rfl⟩, Or.inl ⟨?_, rfl, rfl⟩⟩
      rw [hfi, if_pos]
      by_cases c : (r.P.getD j (0, 0)).2 < 0
      · exact Or.inl c
      · exact Or.inr (fun e => hn ⟨c, e⟩)
    | true =>
      have hy := hopn.1 hop
      have hf := find_of hS top id (place_yes hS hR top q j (by omega) hjs hj2 rfl hw hop hid')
      rw [if_pos rfl] at hf
      refine ⟨m.tick, _, 0, hf, hL.like ⟨rfl, rfl⟩, Or.inr ⟨j, hjp, ?_, rfl, ?_⟩⟩
      · rw [hfi, if_neg]
        rintro (c | c)
        · exact hy.1 c
        · exact c hy.2
      · rw [and32 _ a3, a1]
        unfold wrap64
        omega
theorem p_close (hb : b ≤ 1000) (hS : St w0 w pb mb cb m) (hR : RegAt w base A ca B cc ts ss) (hL : Al15 m top hd d ts ss k g b r) (id : Int) (hid : id ≤ 9223372036854775807) : ∃ M' : M, Calls Try.prog 53 #[ptr pb, .agg #[.int .i64 top, .slice A ts.length ca, .slice B ss.length cc], .int .i64 id] w (Endp w0 w pb mb cb (.int .i64 (r.close id).2) M') ∧ Al15 M' top hd d ts ss k g (b + 1) (r.close id).1 := by
  by_cases ho : id < 0 ∨ (ss.length : Int) ≤ id % 64
  · have hp := fun W (hW : Below w.heap.size w W) => place_out (base := 0) (hS.below hW) (A := A) (B := B) (ca := ca) (cc := cc) (ts := ts) top id (by omega : id < 0 ∨ (0 ≤ id ∧ (ss.length : Int) ≤ id % 64)) hR.lb
    have e : r.close id = (r, 2) := if_pos (by rw [find_out (by rw [hL.lp]; exact ho)]; decide)
    rw [e]
    exact ⟨m, close_no (e1 := 2) hS top id (by decide) hp, hL.more⟩
  · obtain ⟨q, hq⟩ : ∃ q : Nat, id / 64 = (q : Int) := ⟨(id / 64).toNat, by omega⟩
    obtain ⟨j, hj⟩ : ∃ j : Nat, id % 64 = (j : Int) := ⟨(id % 64).toNat, by omega⟩
    have hid' : id = ((q * 64 + j : Nat) : Int) := by omega
    have hjs : j < ss.length := by omega
    have hj2 : j < 64 := by omega
    have hjp : j < r.P.length := by rw [hL.lp]; exact hjs
    have hw := word_val (hL.Y.wp.2 j hjs)
    have hfi := find_in (r := r) hid' hjp hj2
    obtain ⟨a1, a2, a3, a4⟩ := hL.vb_ hb hjs
    have hpb := hL.pb j hjp
    have hopn := hL.opn hb hjs (q : Int)
    cases hop : isOpen ((vsOf r.P).getD j 0) (q : Int) with
    | false =>
      have hn : ¬ (¬ (r.P.getD j (0, 0)).2 < 0 ∧ (r.P.getD j (0, 0)).1 = (q : Int)) := fun c => by have := hopn.2 c; rw [hop] at this; cases this
      have hf0 : r.find id = -1 := by
        rw [hfi, if_pos]
        by_cases c : (r.P.getD j (0, 0)).2 < 0
        · exact Or.inl c
        · exact Or.inr (fun e => hn ⟨c, e⟩)
      have e : r.close id = (r, 2) := if_pos (by rw [hf0]; decide)
      rw [e]
      exact ⟨m.tick, close_no (e1 := 2) hS top id (by decide) (place_not hS hR top q j (by omega) hjs hj2 rfl hw hop hid'), (hL.like (m' := m.tick) ⟨rfl, rfl⟩).more⟩
    | true =>
      have hy := hopn.1 hop
      have hf0 : r.find id = (j : Int) := by
        rw [hfi, if_neg]
        rintro (c | c)
        · exact hy.1 c
        · exact c hy.2
      have e : r.close id = (⟨r.V, r.S, r.P.set j ((r.P.getD j (0, 0)).1 + 1, -1)⟩, 0) := by
        unfold Rg.close
        rw [if_neg (by rw [hf0]; omega), hj, Int.toNat_natCast]
      obtain ⟨M1, e1, h1⟩ := (hL.like (m' := m.tick) ⟨rfl, rfl⟩).place_ hjs ((r.P.getD j (0, 0)).1 + 1, -1) ⟨by simp only; omega, by simp only; omega, by simp only; omega, by simp only; omega⟩
      have ev : ((vsOf r.P).getD j 0 / 4294967296 + 1) * 4294967296 = vOf ((r.P.getD j (0, 0)).1 + 1, -1) := by
        rw [a2]
        unfold vOf
        simp only
        omega
      rw [← ev] at e1
      rw [e]
      exact ⟨M1, close_ok hS top id a3 a4 (place_yes hS hR top q j (by omega) hjs hj2 rfl hw hop hid') e1, h1⟩
/-- What is told of a register: Least, then Oldest. -/
theorem p_told (hL : Al15 m top hd d ts ss k g b r) (c : Int) : ∃ M4 M5 : M, Like M4 m ∧ Like M5 m ∧ (∀ {w : World}, St w0 w pb mb cb m → RegAt w base A ca B cc ts ss → Calls Try.prog 66 #[ptr pb, .agg #[.int .i64 top, .slice A ts.length ca, .slice B ss.length cc], .int .i64 c] w (Endp w0 w pb mb cb (.tuple #[.int .i64 (r.least c), .int .i64 0]) M4)) ∧
    (∀ {w : World}, St w0 w pb mb cb M4 → RegAt w base A ca B cc ts ss → Calls Try.prog 94 #[ptr pb, .agg #[.int .i64 top, .slice A ts.length ca, .slice B ss.length cc], .int .i64 c] w (Endp w0 w pb mb cb (.tuple #[.int .i64 (r.oldest c), .int .i64 0]) M5)) := by
  obtain ⟨M1, M2, M3, M4, n1, n2, n3, e1, e2, e3, e4, M5, e5, l5, l4⟩ := hL.told c
  refine ⟨M4, M5, l4, l5, fun hS hR => least_ok hS hL.Y.ok hR top c e1 e2 e3 e4, fun hS hR => ?_⟩
  have := oldest_calls hS hR top c
  rw [e5] at this
  exact this
end
end Go.Proofs.Ytahnmklofgnagaa.Mem
