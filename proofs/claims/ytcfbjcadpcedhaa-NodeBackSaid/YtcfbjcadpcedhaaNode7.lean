/- Chains of ages in memory: the iterator that goes through them. -/
import Derived.Test.YtcfbjcadpcedhaaNode6
import Derived.RangeFuncNested
import Derived.RangeFuncBound
import Derived.RangeFuncCalls
import Derived.RangeFuncLeaves
import Derived.RangeFuncRecord
import Derived.OwnWalkIn
import Derived.TacticsInMore
import Derived.LoopNIn
import Derived.LoopIn
namespace Go.Proofs.Ytcfbjcadpcedhaa.Mem
open Go.RowKit Go.Proofs.YtcfbjcadpcedhaaW.PrintWords Go.Proofs.YtcfbjcadpcedhaaW.PrintLast Go.Proofs.Ytcfbjcadpcedhaa.Tags
set_option linter.unusedVariables false
set_option linter.unusedSimpArgs false
section
variable {w0 w w' : World} {pb mb cb : Nat} {m m' : M}
theorem Ag.v_inj {a b : Ag} (h : a.v = b.v) : a = b := by
  obtain ⟨a1, a2, a3⟩ := a
  obtain ⟨b1, b2, b3⟩ := b
  simpa [Ag.v] using h
theorem Chain.det : ∀ {h : Int} {l l' : List (Int × Ag)}, Chain m h l → Chain m h l' → l = l'
  | h, [], [], _, _ => rfl
  | h, [], x :: l', hc, hc' => absurd hc hc'.2.1
  | h, x :: l, [], hc, hc' => absurd hc' hc.2.1
  | h, x :: l, x' :: l', hc, hc' => by
    obtain ⟨e, h1, h2, z, h3, h4⟩ := hc
    obtain ⟨e', _, h2', z', h3', h4'⟩ := hc'
    rw [h2] at h2'
    injection h2' with h2'
    injection h2' with _ h2'
    have ha := Ag.v_inj h2'
    rw [ha, h3'] at h3
    injection h3 with h3
    injection h3 with _ h3
    injection h3 with _ h3
    subst h3
    have hx : x = x' := Prod.ext (e.symm.trans e') ha
    rw [hx, h4.det h4']
/-- How many ages there are from a handle on. -/
noncomputable def chLen (m : M) (z : Int) : Nat := Classical.epsilon fun n => ∃ l, Chain m z l ∧ l.length = n
theorem chLen_eq {z : Int} {l : List (Int × Ag)} (h : Chain m z l) : chLen m z = l.length := by
  obtain ⟨l', h', e⟩ := Classical.epsilon_spec (p := fun n => ∃ l, Chain m z l ∧ l.length = n) ⟨_, l, h, rfl⟩
  unfold chLen
  rw [← e, h'.det h]
/-- Memory but for what is counted. -/
def Like (m' m : M) : Prop := m'.cells = m.cells ∧ m'.live = m.live
theorem Like.tick (h : Like m' m) : Like m'.tick m := h
set_option maxHeartbeats 1600000 in
set_option maxRecDepth 100000 in
theorem ages_calls (at_ : Int) (eb : Addr) (w : World) : Calls Try.prog 52 #[ptr pb, .int .i64 at_, .pointer (some eb)] w fun e w' => e = .returned (.func (Fn.func 68) #[] #[.pointer (some ⟨w.heap.size + 1, 0, none⟩), .pointer (some ⟨w.heap.size, 0, none⟩), .pointer (some ⟨w.heap.size + 2, 0, none⟩)]) ∧
    w' = ((w.alloc (.cells #[ptr pb] 29)).alloc (.cells #[.int .i64 at_] 3)).alloc (.cells #[.pointer (some eb)] 93) := by
  have hmf := makeFunc_run
  go_enter Try.func52, Try.ntmps52
  go_wp2_with fail
  go_ret
  exact ⟨rfl, rfl⟩
/-- What a round that goes on leaves: all but the loop's record, and what is new. -/
structure KeepL (W W' : World) (L : Nat) : Prop where
  os : W'.os = W.os
  tape : W'.tape = W.tape
  output : W'.output = W.output
  size : W.heap.size ≤ W'.heap.size
  block : ∀ k, k < W.heap.size → k ≠ L → W'.heap[k]? = W.heap[k]?
  loop : ∃ r, W'.heap[L]? = some (.loop r)
/-- What the iterator comes to: all have come, or one has stopped it. -/
def AgesIn (w0 : World) (pb mb cb : Nat) (m : M) (l : List (Int × Ag)) (stop : Ag → Bool) (J : World → Prop) (Jx : Ag → World → Prop) (e : Ending) (W' : World) : Prop :=
  (∃ v, e = .returned v) ∧ ∃ m', Like m' m ∧ St w0 W' pb mb cb m' ∧ (((∀ x ∈ l, stop x.2 = false) ∧ J W') ∨ ∃ l1 x l2, l = l1 ++ x :: l2 ∧ (∀ y ∈ l1, stop y.2 = false) ∧ stop x.2 = true ∧ Jx x.2 W')
set_option maxHeartbeats 6400000 in
set_option maxRecDepth 100000 in
theorem ages1_in (n : Nat) (hn : 5 ≤ n) (hS : St w0 w pb mb cb m) {h : Int} {l : List (Int × Ag)} (hc : Chain m h l) {bH bP bE L : Nat} {eb : Addr} (kH : w.heap[bH]? = some (.cells #[.int .i64 h] 3 (0, 0))) (kP : w.heap[bP]? = some (.cells #[ptr pb] 29 (0, 0))) (kE : w.heap[bE]? = some (.cells #[.pointer (some eb)] 93 (0, 0)))
    (hL : ∃ r, w.heap[L]? = some (.loop r)) (stop : Ag → Bool) (J : World → Prop) (Jx : Ag → World → Prop) (h0 : J w) (hJ : ∀ W W', J W → Fr W W' mb cb → J W')
    (hY : ∀ (x : Int × Ag) (W : World) (m1 : M), x ∈ l → J W → St w0 W pb mb cb m1 → ∃ fn tmps assign body, (Instr.yield L #[.int .i64 x.1, x.2.v]).run Try.prog W = .ok (.round L fn tmps assign body) W ∧
      RoundIn Fence.wide (n - 1) Try.prog L fn tmps assign body W fun e W' => (stop x.2 = false ∧ e = .returned (.bool true) ∧ J W' ∧ St w0 W' pb mb cb m1 ∧ KeepL W W' L) ∨ (stop x.2 = true ∧ e = .returned (.bool false) ∧ Jx x.2 W' ∧ St w0 W' pb mb cb m1)) :
    CallsIn Fence.wide n Try.prog 68 #[.func (.yield L) #[] #[], .pointer (some ⟨bH, 0, none⟩), .pointer (some ⟨bP, 0, none⟩), .pointer (some ⟨bE, 0, none⟩)] w (AgesIn w0 pb mb cb m l stop J Jx) := by
  have a0 := box1 kH
  have HY := Lib.hid hY
  have HJ := Lib.hid hJ
  have START := Lib.hid (show ∃ (l1 l2 : List (Int × Ag)) (m1 : M) (z : Int), l = l1 ++ l2 ∧ Value.int .i64 h = .int .i64 z ∧ Chain m z l2 ∧ (∀ x ∈ l1, stop x.2 = false) ∧ Like m1 m ∧ St w0 w pb mb cb m1 ∧ J w ∧ w.heap[bP]? = some (.cells #[ptr pb] 29 (0, 0)) ∧ ∃ r, w.heap[L]? = some (.loop r) from ⟨[], l, m, h, rfl, rfl, hc, (fun x hx => by cases hx), ⟨rfl, rfl⟩, hS, h0, kP, hL⟩)
  clear hY hJ hc hS h0 kP kE kH hL
  refine callsIn_of_wp Try.func68 rfl trivial ?_ rfl
  simp only [Try.ntmps68, List.size_toArray, List.length_cons, List.length_nil, Nat.reduceAdd, Nat.reduceSub, Array.replicate_succ, Array.replicate_zero, List.push_toArray, List.append_toArray, List.nil_append, List.cons_append]
  gi_wp2_with fail
  gi_loopw [5] (fun hh wr => ∃ (l1 l2 : List (Int × Ag)) (m1 : M) (z : Int), l = l1 ++ l2 ∧ hh = .int .i64 z ∧ Chain m z l2 ∧ (∀ x ∈ l1, stop x.2 = false) ∧ Like m1 m ∧ St w0 wr pb mb cb m1 ∧ J wr ∧ wr.heap[bP]? = some (.cells #[ptr pb] 29 (0, 0)) ∧ ∃ r, wr.heap[L]? = some (.loop r)) (fun hh _ => chLen m (intOf hh))
  case atStart => exact START.out
  case round =>
    clear START
    obtain ⟨l1, l2, m1, z, hll, rfl, hc, hst, hlk, hS, hj, kP, hL⟩ := hrel
    cases l2 with
    | nil =>
      obtain rfl : z = 0 := hc
      rw [List.append_nil] at hll
      subst hll
      have FIN := Lib.hid (show ∃ m', Like m' m ∧ St w0 wr pb mb cb m' ∧ (((∀ x ∈ l, stop x.2 = false) ∧ J wr) ∨ ∃ l1 x l2, l = l1 ++ x :: l2 ∧ (∀ y ∈ l1, stop y.2 = false) ∧ stop x.2 = true ∧ Jx x.2 wr) from ⟨m1, hlk, hS, Or.inl ⟨hst, hj⟩⟩)
      clear hlk hS hj kP hst
      gi_wp2_with fail
      go_end0
      exact ⟨⟨_, rfl⟩, FIN.out⟩
    | cons x l2 =>
      obtain ⟨he, hz0, hv, y, hy, hc2⟩ := hc
      obtain ⟨xh, xa⟩ := x
      simp only at he hv hy
      subst he
      have hv1 : m1.val z = some (.iface 52 xa.v) := (val_cells hlk.1 _).trans hv
      have hy1 : m1.tick.val xa.prev = some (number y) := ((tick_val m1 _).trans (val_cells hlk.1 _)).trans hy
      have hch : chLen m y < chLen m z := by
        rw [chLen_eq hc2, chLen_eq (show Chain m z ((z, xa) :: l2) from ⟨rfl, hz0, hv, y, hy, hc2⟩)]
        simp
      have hmem : (z, xa) ∈ l := by rw [hll]; simp
      have g1 : (z == 0) = false := by simpa using hz0
      have HT := Lib.hid (take_ok hS hv1)
      have HW := Lib.hid (word_val hy1)
      have HLL := Lib.hid hll
      have HST := Lib.hid hst
      have HCH := Lib.hid hch
      have p0 := box1 kP
      clear hv hv1 hy hy1 hll hst hch
      gi_wp2_with fail
      refine ⟨trivial, fun _ => by omega, (callsIn_wide.2 HT.out).mono ?_⟩
      rintro e W1 ⟨rfl, h1, hF1⟩
      have hj1 := HJ.out _ _ hj hF1
      have kP1 := hF1.blk hS.A kP (by decide) (by decide)
      have hL1 : ∃ r, W1.heap[L]? = some (.loop r) := by
        obtain ⟨r, hr⟩ := hL
        refine ⟨r, (hF1.block L (blk_lt hr) ?_ ?_).trans hr⟩
        · rintro rfl; exact absurd (hr.symm.trans hS.A.hm) (by intro e; injection e with e; cases e)
        · rintro rfl; exact absurd (hr.symm.trans hS.A.hc) (by intro e; injection e with e; cases e)
      have hb2 : Below W1.heap.size W1 (W1.alloc (ageC xa)) := below_alloc (Below.refl _ _) _
      have h2 := h1.below hb2
      have hj2 := HJ.out _ _ hj1 (Fr.of_below hb2 mb cb)
      have kP2 := blk_below kP1 hb2
      have hL2 : ∃ r, (W1.alloc (ageC xa)).heap[L]? = some (.loop r) := by
        obtain ⟨r, hr⟩ := hL1
        exact ⟨r, (hb2.block L (blk_lt hr)).trans hr⟩
      have hk2 := blk_new W1 (ageC xa)
      obtain ⟨k0, k1, k2, k3, k4, k5, k6, k7, k8, k9, k10⟩ := box11 hk2
      obtain ⟨fn, tmps, assign, body, hyd, hR⟩ := HY.out (z, xa) _ m1.tick hmem hj2 h2
      have HR := Lib.hid hR
      have HK2 := Lib.hid hk2
      have HKP2 := Lib.hid kP2
      have HL2 := Lib.hid hL2
      have hLP : bP ≠ L := by
        obtain ⟨r, hr⟩ := hL
        rintro rfl
        exact absurd (hr.symm.trans kP) (by intro e; injection e with e; cases e)
      have hLK : W1.heap.size ≠ L := by
        obtain ⟨r, hr⟩ := hL1
        have := blk_lt hr
        omega
      clear hj hj1 hj2 kP1 hL hL1 hL2 hb2 h1 hF1 hS hR hk2 kP kP2 p0 h2
      gi_wp2_with fail
      refine ⟨fun _ => by omega, HR.out.mono ?_⟩
      rintro e W3 (⟨hs0, rfl, hj3, h3, hk3⟩ | ⟨hs1, rfl, hjx, h3⟩)
      · have kP3 := (hk3.block bP (blk_lt HKP2.out) hLP).trans HKP2.out
        have hk33 := (hk3.block W1.heap.size (blk_lt HK2.out) hLK).trans HK2.out
        have hL3 := hk3.loop
        obtain ⟨k0, k1, k2, k3, k4, k5, k6, k7, k8, k9, k10⟩ := box11 hk33
        have p0 := box1 kP3
        clear hk3 hk33 HR
        gi_wp2_with fail
        refine ⟨trivial, fun _ => by omega, (callsIn_wide.2 (qWord h3 xa.prev)).mono ?_⟩
        rw [HW.out]
        rintro e W4 ⟨rfl, h4, hF4⟩
        have hj4 := HJ.out _ _ hj3 hF4
        have kP4 := hF4.blk h3.A kP3 (by decide) (by decide)
        have hL4 : ∃ r, W4.heap[L]? = some (.loop r) := by
          obtain ⟨r, hr⟩ := hL3
          refine ⟨r, (hF4.block L (blk_lt hr) ?_ ?_).trans hr⟩
          · rintro rfl; exact absurd (hr.symm.trans h3.A.hm) (by intro e; injection e with e; cases e)
          · rintro rfl; exact absurd (hr.symm.trans h3.A.hc) (by intro e; injection e with e; cases e)
        clear k0 k1 k2 k3 k4 k5 k6 k7 k8 k9 k10 p0 hF4 h3 hj3 kP3 hL3
        gi_wp2_with fail
        go_roundw
        case rel =>
          refine ⟨l1 ++ [(z, xa)], l2, m1.tick.tick, y, by rw [HLL.out]; simp, rfl, hc2, fun q hq => ?_, hlk.tick.tick, h4, hj4, kP4, hL4⟩
          rcases List.mem_append.1 hq with hq | hq
          · exact HST.out q hq
          · obtain rfl := List.mem_singleton.1 hq
            exact hs0
        case measure => exact HCH.out
      · have FIN := Lib.hid (show ∃ m', Like m' m ∧ St w0 W3 pb mb cb m' ∧ (((∀ x ∈ l, stop x.2 = false) ∧ J W3) ∨ ∃ l1 x l2, l = l1 ++ x :: l2 ∧ (∀ y ∈ l1, stop y.2 = false) ∧ stop x.2 = true ∧ Jx x.2 W3) from ⟨m1.tick, hlk.tick, h3, Or.inr ⟨l1, (z, xa), l2, HLL.out, HST.out, hs1, hjx⟩⟩)
        clear h3 hjx HR
        gi_wp2_with fail
        refine bodyPost_ret (results_none rfl _ _ _) rfl ?_
        exact ⟨⟨_, rfl⟩, FIN.out⟩
end
end Go.Proofs.Ytcfbjcadpcedhaa.Mem
