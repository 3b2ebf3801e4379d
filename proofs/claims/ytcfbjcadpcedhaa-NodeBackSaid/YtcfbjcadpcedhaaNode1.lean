/- Lists of cells: slices.Grow, slices.Concat of two; free; taken. -/
import Derived.Test.YtcfbjcadpcedhaaNode0
import Derived.Test.YtcfbjcadpcedhaaOwn
namespace Go.Proofs.Ytcfbjcadpcedhaa.Mem
open Go.RowKit Go.Proofs.YtcfbjcadpcedhaaW.PrintWords Go.Proofs.YtcfbjcadpcedhaaW.PrintLast Go.Proofs.Ytcfbjcadpcedhaa.Tags
set_option linter.unusedVariables false
set_option linter.unusedSimpArgs false
section
variable {w0 w w' : World} {pb mb cb : Nat} {m m' : M}
theorem run_grow (ty : TypeId) (n : Nat) (h0 : 0 < n) (hn : n ≤ 1000000) : (Builtin.append_ #[32, 3] ty #[.slice none 0 0, .int .i64 n]).run Try.prog w =
    .ok (.slice (some ⟨w.heap.size, 0, none⟩) n (grownCap w n 0 3)) (w.drew.alloc (.cells (Builtin.zeroCells #[.int .i64 0] n ++ Builtin.zeroCells #[.int .i64 0] (grownCap w n 0 3 - n)) 3)) := by
  obtain ⟨i0, hi, hzz⟩ := Option.map_eq_some_iff.1 int_info
  simp only [Prod.mk.injEq] at hzz
  obtain ⟨hz0, hz1, hz2⟩ := hzz
  have hu := Try.underlying3
  have ht := Try.underlying32
  have hn0 : n ≠ 0 := by omega
  have hw : IntKind.i64.wrap (n : Int) = n := by rw [IntKind.wrap_i64]; omega
  have h1 : ¬ ((n : Int) < 0) := by omega
  have h2 : ¬ (281474976710656 < (n : Int) * 8) := by omega
  have h63' : ¬ (9223372036854775807 < (n : Int)) := by omega
  have h48' : ¬ (281474976710656 < Builtin.nextslicecap n 0 * 8) := by rw [nextslicecap_zero h0]; omega
  simp [Builtin.append_, run_underlying ht, run_underlying hu, sizeOf, typeInfo, zeroValue, hi, hz0, hz1, hz2, Builtin.lenOf, hn0, h63', h48', Question.forced, run_firstCells_none, newRow, grownCap, hw, h1, h2, asInt, asIntOf]
  rfl
theorem wpList_grow {ops : Array Oper} {rest : List Oper} {o : Oper} {a : Go.Act} {Q : Exit → Go.Act → World → Prop} (hgd : o.guard = none) (s x : Operand) (ho : o.op = .call { callee := .builtin .append, args := #[s, x], argTypes := #[32, 3] })
    (n : Nat) (h0 : 0 < n) (hn : n ≤ 1000000) (hs : a.eval s = .slice none 0 0) (hx : a.eval x = .int .i64 n)
    (h : ∀ cap w1, n ≤ cap → OwnI w1 w.heap.size (.slice (some ⟨w.heap.size, 0, none⟩) 0 cap) [] → Below w.heap.size w w1 → wpList Try.prog ops Q rest (a.put o.dst (.slice (some ⟨w.heap.size, 0, none⟩) n cap)) w1) : wpList Try.prog ops Q (o :: rest) a w := by
  have hge := grownCap_ge w n 0 3
  have hcm := grownCap_le_maxLen w n 0 3 (by simp only [maxLen]; omega)
  have hb : Below w.heap.size w (w.drew.alloc (.cells (Builtin.zeroCells #[.int .i64 0] n ++ Builtin.zeroCells #[.int .i64 0] (grownCap w n 0 3 - n)) 3)) := (Below.drew (Below.refl _ _)).alloc (Nat.le_refl _) _
  refine wpList_plain hgd fun _ hK => ?_
  unfold Oper.wp execOp
  simp only [ho, resolve, invoke, builtin, Sem.run_bind, Sem.run_pure, Result.andThen_ok, List.map_toArray, List.map_cons, List.map_nil, hs, hx, run_grow _ n h0 hn]
  refine hK _ _ (h _ _ hge ⟨rfl, .inr ⟨w.heap.size, _, _, rfl, Nat.le_refl _, heap_alloc_new w.drew _, Nat.zero_le _, hcm, ?_, ?_⟩⟩ hb)
  · rw [Array.size_append, size_zeroCells, size_zeroCells]
    simp
    omega
  · simp
set_option maxHeartbeats 1600000 in
set_option maxRecDepth 100000 in
theorem grow_calls (n : Nat) (h0 : 0 < n) (hn : n ≤ 1000000) : Calls Try.prog 61 #[.slice none 0 0, .int .i64 n] w fun e w' => ∃ v, e = .returned v ∧ OwnI w' w.heap.size v [] ∧ Below w.heap.size w w' := by
  have g1 : decide ((n : Int) < 0) = false := decide_eq_false (by omega)
  have g2 : decide (0 < n) = true := decide_eq_true h0
  have hw : IntKind.i64.wrap ((n : Int) - 0) = n := by rw [IntKind.wrap_i64]; omega
  have hw2 : wrap64 (n : Int) = n := by unfold wrap64; omega
  go_enter Try.func61, Try.ntmps61
  go_wp2_with (at_builtin; refine wpList_grow rfl _ _ rfl n h0 hn rfl rfl ?_)
  intro cap w1 hc hO hB
  go_wp2_with fail
  go_ret
  exact ⟨_, rfl, hO, hB⟩
/-- A list of whole numbers that lies somewhere in memory. -/
abbrev Rd (w : World) (A : Option Addr) (xs : List Int) : Prop := ReadsInt w .i64 A xs.length xs
set_option maxHeartbeats 3200000 in
set_option maxRecDepth 100000 in
theorem concat_calls {gb : Nat} {A1 A2 : Option Addr} {c1 c2 : Nat} {xs ys : List Int} (hk : w.heap[gb]? = some (.cells #[.slice A1 xs.length c1, .slice A2 ys.length c2] 32 (0, 0))) (h1 : Rd w A1 xs) (h2 : Rd w A2 ys) (h0 : 0 < xs.length + ys.length) (hn : xs.length + ys.length ≤ 100000) :
    Calls Try.prog 46 #[.slice (some ⟨gb, 0, none⟩) 2 2] w fun e w' => ∃ v, e = .returned v ∧ OwnI w' w.heap.size v (xs ++ ys) ∧ Below w.heap.size w w' := by
  have k0 : w.cell? ⟨gb, 0, none⟩ = some (.slice A1 xs.length c1) := (blk_cell hk 0).trans rfl
  have k1 : w.cell? ⟨gb, 1, none⟩ = some (.slice A2 ys.length c2) := (blk_cell hk 1).trans rfl
  have H1 := Lib.hid h1
  have H2 := Lib.hid h2
  have HK := Lib.hid hk
  clear h1 h2 hk
  go_enter Try.func46, Try.ntmps46
  go_wp2_with fail
  go_loopw [3, 11] (fun n i wr => w = wr ∧ ∃ k : Nat, k ≤ 2 ∧ i = .int .i64 k ∧ n = .int .i64 (if k = 0 then 0 else if k = 1 then (xs.length : Int) else (xs.length : Int) + ys.length)) (fun _ i _ => 2 - (intOf i).toNat)
  case atStart => exact ⟨rfl, 0, by omega, rfl, rfl⟩
  case round =>
    obtain ⟨rfl, k, hk, rfl, rfl⟩ := hrel
    rcases (show k = 0 ∨ k = 1 ∨ k = 2 by omega) with rfl | rfl | rfl
    · have g1 : decide ((xs.length : Int) < 0) = false := decide_eq_false (by omega)
      have hw : wrap64 (0 + (xs.length : Int)) = xs.length := by unfold wrap64; omega
      go_wp2_with fail
      go_roundw
      case rel => exact ⟨by first | rfl | trivial, 1, by omega, by go_num, by go_num⟩
      case measure => simp [intOf]
    · have g1 : decide ((xs.length : Int) + ys.length < 0) = false := decide_eq_false (by omega)
      have hw : wrap64 ((xs.length : Int) + (ys.length : Int)) = (xs.length : Int) + ys.length := by unfold wrap64; omega
      go_wp2_with fail
      go_roundw
      case rel => exact ⟨by first | rfl | trivial, 2, by omega, by go_num, by go_num⟩
      case measure => simp [intOf]
    · rw [if_neg (by decide), if_neg (by decide)]
      obtain ⟨n, hn2⟩ : ∃ n : Nat, xs.length + ys.length = n := ⟨_, rfl⟩
      rw [show (xs.length : Int) + ys.length = (n : Int) by omega]
      go_wp2_with fail
      refine (grow_calls n (by omega) (by omega)).mono ?_
      rintro e w1 ⟨v, rfl, hO, hB⟩
      have hR1 := H1.out.below hB
      have hR2 := H2.out.below hB
      have q0 : w1.cell? ⟨gb, 0, none⟩ = some (.slice A1 xs.length c1) := (blk_cell (blk_below HK.out hB) 0).trans rfl
      have q1 : w1.cell? ⟨gb, 1, none⟩ = some (.slice A2 ys.length c2) := (blk_cell (blk_below HK.out hB) 1).trans rfl
      have HQ := Lib.hid (blk_below HK.out hB)
      have hlt := blk_lt HK.out
      clear k0 k1
      obtain ⟨wb, hwb⟩ : ∃ b, w.heap.size = b := ⟨_, rfl⟩
      rw [hwb] at hO hB hlt
      go_wp2_with fail
      go_loopw [6, 27] (fun v i wr => ∃ k : Nat, k ≤ 2 ∧ i = .int .i64 k ∧ OwnI wr wb v (if k = 0 then [] else if k = 1 then xs else xs ++ ys) ∧ Below wb w wr) (fun _ i _ => 2 - (intOf i).toNat)
      case atStart => exact ⟨0, by omega, rfl, hO, hB⟩
      case round =>
        clear hO hB
        obtain ⟨k, hk, rfl, hO, hB⟩ := hrel
        have hs := hB.size
        rw [hwb] at hs
        have hHK := Lib.hid ((hB.block gb hlt).trans HK.out)
        have q0 : wr.cell? ⟨gb, 0, none⟩ = some (.slice A1 xs.length c1) := (blk_cell hHK.out 0).trans rfl
        have q1 : wr.cell? ⟨gb, 1, none⟩ = some (.slice A2 ys.length c2) := (blk_cell hHK.out 1).trans rfl
        have hB' := hB
        rw [← hwb] at hB'
        have hR1 := H1.out.below hB'
        have hR2 := H2.out.below hB'
        clear hB'
        rcases (show k = 0 ∨ k = 1 ∨ k = 2 by omega) with rfl | rfl | rfl
        · rw [if_pos rfl] at hO
          go_wp2_with (at_builtin; refine print_append_row (w0 := w) wb rfl _ _ 32 3 .i64 8 rfl Try.underlying32 int_info (by decide) _ [] xs A1 xs.length c1 rfl rfl hO hR1 hB hs (by simp; omega) ?_)
          intro v1 w2 hO1 hB1 _ _
          go_wp2_with fail
          go_roundw
          case rel => exact ⟨1, by omega, by go_num, by simpa [OwnI, nums] using hO1, hB1⟩
          case measure => simp [intOf]
        · rw [if_neg (by decide), if_pos rfl] at hO
          go_wp2_with (at_builtin; refine print_append_row (w0 := w) wb rfl _ _ 32 3 .i64 8 rfl Try.underlying32 int_info (by decide) _ xs ys A2 ys.length c2 rfl rfl hO hR2 hB hs (by omega) ?_)
          intro v1 w2 hO1 hB1 _ _
          go_wp2_with fail
          go_roundw
          case rel => exact ⟨2, by omega, by go_num, by rw [if_neg (by decide), if_neg (by decide)]; unfold OwnI; rw [List.length_append, hn2]; exact hO1, hB1⟩
          case measure => simp [intOf]
        · rw [if_neg (by decide), if_neg (by decide)] at hO
          go_wp2_with fail
          go_ret
          subst hwb
          exact ⟨_, rfl, hO, hB⟩
/-- What lies somewhere abides a call by a port: its block holds whole numbers. -/
def RdT (w : World) (A : Option Addr) (xs : List Int) : Prop := Rd w A xs ∧ ∀ ad, A = some ad → ad.spot = none ∧ ∃ cs, w.heap[ad.block]? = some (.cells cs 3 (0, 0))
theorem RdT.fr {A : Option Addr} {xs : List Int} (h : RdT w A xs) (hA : At w mb cb m) (hF : Fr w w' mb cb) : RdT w' A xs := by
  have hk : ∀ ad, A = some ad → w'.heap[ad.block]? = w.heap[ad.block]? := fun ad e => by
    obtain ⟨_, cs, hc⟩ := h.2 ad e
    exact (hF.blk hA hc (by decide) (by decide)).trans hc.symm
  refine ⟨⟨h.1.1, h.1.2.1, fun hn => ?_⟩, fun ad e => ?_⟩
  · obtain ⟨ad, e, hc⟩ := h.1.2.2 hn
    exact ⟨ad, e, fun j hj => (World.cell?_of_block (a := ad.add j) (by rw [show (ad.add j).block = ad.block by unfold Addr.add; split <;> rfl]; exact hk ad e)).trans (hc j hj)⟩
  · obtain ⟨e1, cs, hc⟩ := h.2 ad e
    exact ⟨e1, cs, (hk ad e).trans hc⟩
theorem RdT.below {A : Option Addr} {xs : List Int} (h : RdT w A xs) (hb : Below w.heap.size w w') : RdT w' A xs :=
  ⟨h.1.below hb, fun ad e => by
    obtain ⟨e1, cs, hc⟩ := h.2 ad e
    exact ⟨e1, cs, blk_below hc hb⟩⟩
theorem RdT.at_ {A : Option Addr} {xs : List Int} (h : RdT w A xs) (j : Nat) (hj : j < xs.length) : ∃ g o, A = some ⟨g, o, none⟩ ∧ w.cell? ⟨g, o + j, none⟩ = some (.int .i64 (xs.getD j 0)) := by
  obtain ⟨ad, e, hc⟩ := h.1.2.2 (by omega)
  obtain ⟨e1, _⟩ := h.2 ad e
  obtain ⟨g, o, sp⟩ := ad
  subst e1
  have := hc j hj
  rw [Addr.add_lit] at this
  exact ⟨g, o, e, this⟩
theorem OwnI.rd {base c : Nat} {A : Option Addr} {xs : List Int} (h : OwnI w base (.slice A xs.length c) xs) (hl : xs.length ≤ 1000000) : RdT w A xs := by
  rcases h.2 with ⟨e, h0⟩ | ⟨g, cap, cur, e, hg, hc, _⟩
  · injection e with e1
    subst e1
    exact ⟨⟨rfl, by omega, fun hn => by omega⟩, fun ad e => by cases e⟩
  · injection e with e1 _ e3
    subst e1 e3
    refine ⟨⟨rfl, by omega, fun hn => ⟨_, rfl, fun j hj => ?_⟩⟩, fun ad e => ?_⟩
    · obtain ⟨g', e', hc'⟩ := h.cell j hj
      injection e' with e'
      injection e' with e'
      subst e'
      rw [Addr.add_lit, Nat.zero_add]
      exact hc'
    · injection e with e
      subst e
      exact ⟨rfl, _, hc⟩
/-- All but the first of a list. -/
theorem RdT.tail {g c : Nat} {x : Int} {xs : List Int} (h : RdT w (some ⟨g, 0, none⟩) (x :: xs)) : RdT w (some ⟨g, 1, none⟩) xs := by
  refine ⟨⟨rfl, by have := h.1.2.1; simp at this; omega, fun hn => ⟨_, rfl, fun j hj => ?_⟩⟩, fun ad e => ?_⟩
  · obtain ⟨ad, e, hc⟩ := h.1.2.2 (by simp)
    injection e with e
    subst e
    have := hc (j + 1) (by simp; omega)
    rw [Addr.add_lit] at this ⊢
    rw [Nat.zero_add] at this
    rw [Nat.add_comm]
    exact this
  · injection e with e
    subst e
    obtain ⟨e1, cs, hc⟩ := h.2 _ rfl
    exact ⟨rfl, cs, hc⟩
def M.frees (m : M) (ts : List Int) : M := ts.foldl (fun m h => (m.free h).1) m
theorem M.frees_take (m : M) (ts : List Int) (k : Nat) (h : k < ts.length) : m.frees (ts.take (k + 1)) = ((m.frees (ts.take k)).free (ts.getD k 0)).1 := by
  unfold M.frees
  rw [List.take_succ_eq_append_getElem h, List.foldl_append, List.getD_eq_getElem?_getD, List.getElem?_eq_getElem h]
  rfl
/-- The first error of so many that are freed. -/
def M.ferr (m : M) (ts : List Int) : Nat → Int
  | 0 => 0
  | k + 1 => if m.ferr ts k = 0 then ((m.frees (ts.take k)).free (ts.getD k 0)).2 else m.ferr ts k
theorem ferr_zero {ts : List Int} (h : ∀ k, k < ts.length → ((m.frees (ts.take k)).free (ts.getD k 0)).2 = 0) : ∀ k, k ≤ ts.length → m.ferr ts k = 0
  | 0, _ => rfl
  | k + 1, hk => by
    unfold M.ferr
    rw [if_pos (ferr_zero h k (by omega))]
    exact h k (by omega)
set_option maxHeartbeats 1600000 in
set_option maxRecDepth 100000 in
theorem nfree_calls (h : St w0 w pb mb cb m) {c : Nat} {A : Option Addr} {ts : List Int} (hO : RdT w A ts) (hl : ts.length ≤ 1000) :
    Calls Try.prog 48 #[ptr pb, .slice A ts.length c] w (Endp w0 w pb mb cb (.int .i64 (m.ferr ts ts.length)) (m.frees ts)) := by
  go_enter Try.func48, Try.ntmps48
  go_wp2_with fail
  go_loopw [5, 11] (fun z i wr => ∃ k : Nat, k ≤ ts.length ∧ z = .int .i64 (m.ferr ts k) ∧ i = .int .i64 k ∧ St w0 wr pb mb cb (m.frees (ts.take k)) ∧ Fr w wr mb cb) (fun _ i _ => ts.length - (intOf i).toNat)
  case atStart => exact ⟨0, by omega, rfl, rfl, h, Fr.refl _ _ _⟩
  case round =>
    obtain ⟨k, hk, rfl, rfl, hS, hF⟩ := hrel
    have hO2 := hO.fr h.A hF
    by_cases hlt : k < ts.length
    · obtain ⟨g, o, eg, hcell⟩ := hO2.at_ k hlt
      have hft := M.frees_take m ts k hlt
      have hfe : m.ferr ts (k + 1) = if m.ferr ts k = 0 then ((m.frees (ts.take k)).free (ts.getD k 0)).2 else m.ferr ts k := rfl
      obtain ⟨z, hz⟩ : ∃ z, m.ferr ts k = z := ⟨_, rfl⟩
      rw [hz] at hfe ⊢
      generalize ts.getD k 0 = x at *
      have g1 : decide (k < ts.length) = true := decide_eq_true hlt
      subst eg
      obtain ⟨M1, e1, hfr⟩ : ∃ M1 e1, (m.frees (ts.take k)).free x = (M1, e1) := ⟨_, _, rfl⟩
      rw [hfr] at hft hfe
      have HFR := Lib.hid hfr
      have HFT := Lib.hid hft
      have HFE := Lib.hid hfe
      have HO := Lib.hid hO
      clear hft hO2 hO hfr hfe hz
      by_cases hz0 : (z == 0) = true
      · have HZ := Lib.hid hz0
        go_wp2_with fail
        refine (qFree hS x).mono ?_
        rw [HFR.out]
        rintro e W1 ⟨rfl, h1, hF1⟩
        have HF := Lib.hid (hF.trans hF1)
        clear hF hF1 hS hcell
        go_wp2_with fail
        go_roundw
        case rel => exact ⟨k + 1, by omega, by rw [HFE.out, if_pos (by simpa using HZ.out)], by go_num, by rw [HFT.out]; exact h1, HF.out⟩
        case measure => simp [intOf]; omega
      · have hz1 : (z == 0) = false := by simpa using hz0
        have HZ := Lib.hid hz1
        clear hz0
        go_wp2_with fail
        refine (qFree hS x).mono ?_
        rw [HFR.out]
        rintro e W1 ⟨rfl, h1, hF1⟩
        have HF := Lib.hid (hF.trans hF1)
        clear hF hF1 hS hcell
        go_wp2_with fail
        go_roundw
        case rel => exact ⟨k + 1, by omega, by rw [HFE.out, if_neg (by simpa using HZ.out)], by go_num, by rw [HFT.out]; exact h1, HF.out⟩
        case measure => simp [intOf]; omega
    · obtain rfl : k = ts.length := by omega
      have g1 : decide (ts.length < ts.length) = false := decide_eq_false (by omega)
      rw [List.take_length] at hS
      obtain ⟨z, hz⟩ : ∃ z, m.ferr ts ts.length = z := ⟨_, rfl⟩
      rw [hz]
      have HZ := Lib.hid hz
      clear hz
      go_wp2_with fail
      go_ret
      exact ⟨by first | rfl | (rw [HZ.out]; rfl), hS, hF⟩
set_option maxHeartbeats 1600000 in
set_option maxRecDepth 100000 in
theorem taken_zero (h : St w0 w pb mb cb m) {c : Int} (hv : m.val c = some (number 0)) : Calls Try.prog 53 #[ptr pb, .int .i64 c] w (Endp w0 w pb mb cb (.tuple #[.int .i64 0, .int .i64 0]) m.tick) := by
  have HW := Lib.hid (word_val hv)
  clear hv
  go_enter Try.func53, Try.ntmps53
  go_wp2_with fail
  refine (qWord h c).mono ?_
  rw [HW.out]
  rintro e W1 ⟨rfl, h1, hF⟩
  go_wp2_with fail
  go_ret2
  exact ⟨rfl, h1, hF⟩
set_option maxHeartbeats 1600000 in
set_option maxRecDepth 100000 in
theorem taken_some (h : St w0 w pb mb cb m) {c z : Int} (hv : m.val c = some (number z)) (hz : z ≠ 0) {M2 : M} (hs : m.tick.swap c z 0 = (M2, true, 0)) : Calls Try.prog 53 #[ptr pb, .int .i64 c] w (Endp w0 w pb mb cb (.tuple #[.int .i64 z, .int .i64 0]) M2) := by
  have HW := Lib.hid (word_val hv)
  have HS := Lib.hid hs
  have g1 : (z == 0) = false := by simpa using hz
  clear hv hs
  go_enter Try.func53, Try.ntmps53
  go_wp2_with fail
  refine (qWord h c).mono ?_
  rw [HW.out]
  rintro e W1 ⟨rfl, h1, hF⟩
  have HF := Lib.hid hF
  clear h hF
  go_wp2_with fail
  refine (qSwap h1 c z 0).mono ?_
  rw [HS.out]
  rintro e W2 ⟨rfl, h2, hF⟩
  have HF2 := Lib.hid (HF.out.trans hF)
  clear h1 hF
  go_wp2_with fail
  go_ret2
  exact ⟨rfl, h2, HF2.out⟩
end
end Go.Proofs.Ytcfbjcadpcedhaa.Mem
